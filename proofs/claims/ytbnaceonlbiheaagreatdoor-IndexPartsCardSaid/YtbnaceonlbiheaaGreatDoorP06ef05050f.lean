/- A part of the proofs of this seat: PevCall3 PevCall4 PevTop PevClone G28M1 G28M2 G28M3 G28M4 PevTake PevPanC PevDefer PevClip PevRaw. -/
import Derived.Test.YtbnaceonlbiheaaGreatDoorP08323c1103
import Derived.Laws.Sem
import Derived.KernelRfl
import Derived.Lib.SliceRun
import Derived.Recover
set_option linter.unusedVariables false
set_option linter.unusedSimpArgs false
set_option linter.unusedSectionVars false
set_option maxRecDepth 100000
section
namespace Go.Pev
open Go.RowKit
noncomputable section
section
variable [DfI] {P:Program} {w:World} {F:Nat->Prop} {m:Mp} {st:St} {a:Act}
def kV(b:Array Value):ResultVar->Sem Value
 |.tmp t=>pure (b.getD t undef)
 |.cell x t=>do loadVar t (<- asAddr (b.getD x undef))
theorem qD(e:SI w F m st a){g:ResultVar}{v:AV}(h:Rx P st g=some v):
  ∃ u,(kV a.tmps g).run P w = .ok u w/\Rep w F m st.heap v u:=by
 cases g with
  |tmp t=>simp only[Rx,AV3]at h;subst h;exact⟨_,rfl,e.tmps t⟩
  |cell x T=>
   simp only[Rx]at h;split at h;rename_i id off n ag o p q;split at h;rename_i cs k;have d:=e.tmps x;have r:st.tmps.f x = .ptr id off:=o;rw[r]at d;unfold Rep HM at d;rw[k]at d;obtain⟨b,c,s,y⟩:=d;obtain⟨b',c',vs,E,l,z,A,B⟩:=e.heap.obj id _ k;rw[s]at l;cases l;obtain⟨u,C,D⟩:=Dr (P:=P) p q h (Fw A off) (ad:=⟨b,off,none⟩) (fun u i=>B u (AXi i)) (fun j u i=>by rw[AYd]at i;rw[C8];simp only[World.cell?,z];grind)
   refine⟨u,?_,D⟩;simp[kV,y,asAddr,C];grind;grind
theorem kU(d:SI w F m st a):∀ {b:List ResultVar} {vs:List AV},EM P st b=some vs ->
  ∃ us,(b.mapM (kV a.tmps)).run P w = .ok us w/\BF w F m st.heap vs us:=by
 intro b;induction b with
  |nil=>intro vs h;simp only[EM,AV3]at h;subst h;exact⟨[],by simp,Lf⟩
  |cons i b e=>intro vs h;simp only[EM]at h;split at h;cases h;rename_i v f;split at h;cases h;rename_i g c;simp only[AV3]at h;subst h;obtain⟨u,j,k⟩:=qD d f;obtain⟨us,l,n⟩:=e c;refine⟨u::us,?_,by unfold BF;grind⟩;simp_all
def lV(us:List Value):Value:=if h:us.toArray.size=1 then us.toArray[0]else .tuple us.toArray
theorem L3(b:SI w F m st a){fn:Func}{vs:List AV}(h:EM P st fn.results.toList=some vs):
  ∃ us,(results fn a.tmps).run P w = .ok (lV us) w/\BF w F m st.heap vs us:=by
 obtain⟨us,c,d⟩:=kU b h;refine⟨us,?_,d⟩
 have e:results fn a.tmps=(do
   let vs <- fn.results.mapM (kV a.tmps)
   pure (if h:vs.size=1 then vs[0]else .tuple vs)):=by
  unfold results
  congr 2
 rw[e,AYX];simp only[Sem.run_bind,map_eq_pure_bind];rw[c];rfl
theorem fk{H:List Ob}{vs:List AV}{us:List Value}(h:BF w F m H vs us):Rep w F m H (single vs) (lV us):=by
 have b:=Ba h;unfold lV;match vs,us,b with
 |[],[],_=>
  simp only[single]
  unfold Rep
  simp_all
 |[v],[u],_=>
  simp only[single]
  unfold BF at h
  grind
 |v::v'::vs,u::u'::us,_=>
  simp only[single]
  unfold Rep
  simp_all
def KP:List RS->List Value->List Value
 |.one::r,u::us=>u::KP r us
 |.agg _::r,u::us=>u.cells.toList++KP r us
 |_,_=>[]
theorem wZ{H:List Ob}:∀ {rs:List RS} {vs:List AV} {us:List Value} {z:List AV},GQ rs vs=some z->BF w F m H vs us ->
  BF w F m H z (KP rs us)/\(KP rs us).length=cellsOf rs/\∀ (i:World) (j:Nat->Prop) (k:Mp) (o:List Ob) (g:List AV),BF i j k o g (KP rs us)->BF i j k o (Ex rs g) us:=by
 intro rs;induction rs with
  |nil=>
   intro vs us z h c;cases vs with
    |nil=>simp only[GQ,AV3]at h;subst h;unfold BF at c;subst c;exact⟨Lf,rfl,fun _ _ _ _ _ _=>Lf⟩
    |cons v vs=>simp[GQ]at h
  |cons r rs E=>
   intro vs us z h c;cases vs with
    |nil=>cases r<;>simp[GQ]at h
    |cons v vs=>
     unfold BF at c;obtain⟨u,A,rfl,f,c⟩:=c;cases r with
      |one=>
       simp only[GQ]at h;split at h;rename_i l B;simp only[AV3]at h;subst h;obtain⟨G,C,I⟩:=E B c;refine⟨by simp only[KP];unfold BF;grind,by simp[KP,cellsOf,RS.cells,C];omega,fun i j k o g b => ?_⟩;simp only[KP]at b;cases g with
        |nil=>unfold BF at b;cases b
        |cons x g=>unfold BF at b;obtain⟨y,ys,e,M,N⟩:=b;cases e;simp only[Ex,AYK,AXj];unfold BF;grind
       grind
      |agg n=>
       simp only[GQ]at h;split at h;rename_i cs p q;split at h;rename_i K;simp only[AV4]at K;split at h;rename_i l B;simp only[AV3]at h;subst h;obtain⟨G,C,I⟩:=E B c;have J:=cells?_ok q f;have O:=cells?_one q f;have D:=Ba J;have Q:u = .agg u.cells:=by
        cases v<;>simp only[Po]at p<;>try grind
        rename_i t d;unfold Rep Ce at f;rw[AWB p]at f;obtain⟨x,rfl,_⟩:=f;rfl;unfold Rep at f;obtain⟨x,rfl,_⟩:=f;rfl
       refine⟨by simp only[KP];exact H5 J G,by simp[KP,cellsOf,RS.cells,C]at D |-;omega,fun i j k o g b => ?_⟩;simp only[KP]at b;have L:=PJ b n;have hd:=Fw b n;have s:u.cells.toList.length=n:=by omega
       rw[List.take_left' s]at L;rw[List.drop_left' s]at hd;simp only[Ex];unfold BF;refine⟨u,A,rfl,?_,I i j k o _ hd⟩;unfold Rep;grind;grind;grind;grind
end
theorem Cb {P : Program} {g : FuncId} {fn : Func} (hf : P.funcs[g]? = some fn) (hb : fn.body.isSome = true) (hn : (fn.name == "runtime.NumGoroutine") = false) : H_ P g := by
 intro args w;obtain⟨c,hc⟩:=AXB.1 hb;have hn' : ¬ fn.name = "runtime.NumGoroutine" := by grind
 simp[callFunc,hf,hn',hc]
theorem Ms{P:Program}{np:Nat}{h:Hints}:∀ (c:Code) (n:Nat),loops c=0->Bx P np h c n:=by
 intro c;induction c with
  |seq a b e f=>intro n d;simp only[loops]at d;exact⟨e n (by omega),f _ (by omega)⟩
  |cond c a b e f=>intro n d;simp only[loops]at d;exact⟨e n (by omega),f _ (by omega)⟩
  |block id c g=>intro n d;simp only[loops]at d;exact g n d
  |loop c g=>intro n d;simp only[loops]at d;omega
  |_=>intro n _;trivial
section
variable {P:Program} {E:Env} {h:Hints} {g:FuncId} {fn:Func} {c:Code}
theorem jy{w:World}{F:Nat->Prop}{m:Mp}{H:List Ob}{args:List AV}{a:List Value}(d:BF w F m H args a)(n:Nat)(t:Nat):
  Rep w F m H (args.getD t .C7) ((a.toArray++Array.replicate n undef).getD t undef):=by
 have j:=Ba d;have e:(a.toArray++Array.replicate n undef).getD t undef=(a++List.replicate n undef).getD t undef:=by rw[AWe,AWd,<- AW4];simp
 rw[e,AWd,AWd];rcases AX1 t args.length with b|b;rw[AXs (by omega)];obtain⟨v,k,f⟩:=DR d (i:=t) (c:=args[t]) (AWC b);grind;rw[AXM b];exact(by unfold Rep;trivial:Rep w F m H .C7 _)
theorem rO(I:∀ g,BW P g (E.spec g))(J:Eu E)(K:Gg P E)(q:P.funcs[g]? = some fn)(s:fn.body=some c)(L:H_ P g)(M:loops c=0):
  BW P g (CL P E h fn):=by
 intro R args H fz slot k r p;simp only[CL,s]at p;split at p;cases p;rename_i f;simp only[AV4]at f;obtain⟨e,st',V,W,N⟩:=DM I J K (np:=H.length) c 0 (Ms c 0 M) R _ _ r p;have x:∃ vs,EM P st' fn.results.toList=some vs/\k (single vs) { heap:=some (st'.heap,st'.frz) }=some r/\(e = .normal\/e = .ret):=by grind
 obtain⟨vs,y,O,Q⟩:=x;refine⟨_,_,O,fun X Y => ?_,L,fun w F m b hi C => ?_⟩;simp only[CL,s,f,AWG];grind;have j:=Ba C;refine calls_of_wp q s ?_;have z:SI w F m { tmps:=.of args fn.ntmps,heap:=H,frz:=fz } { tmps:=b.toArray++Array.replicate (fn.ntmps-b.toArray.size) undef,defers:=[] }:=by refine⟨fun t => ?_,?_,hi,rfl⟩;have:=jy C (fn.ntmps-args.length) t;simp only[AXJ,j];exact this;simp[j,Tm.of];omega
 refine N w F m _ _ z fun D w' l n A a => ?_;obtain⟨us,S,T⟩:=L3 A y;have B:BS w F m H fz w' l n st'.heap st'.frz:=⟨⟨a.os,a.tape,a.output,a.size,a.keep,a.sub,a.bnd,a.own,fun i o G q=>a.comp i o (BU G) G q⟩,A.heap⟩
 have d:D.defers=[]/\∃ v,(results fn D.tmps).run P w' = .ok v w'/\(fun(U:Ending) (w':World)=>∃ u,U = .returned u/\∃ l n,BS w F m H fz w' l n (DB { heap:=some (st'.heap,st'.frz) } H) (FN { heap:=some (st'.heap,st'.frz) } fz)/\Rep w' l n (DB { heap:=some (st'.heap,st'.frz) } H) (single vs) u) (.returned v) w':=
  ⟨A.defers,_,S,_,rfl,l,n,B,fk T⟩
 rcases Q with rfl|rfl<;>exact d
theorem jI{w:World}{F:Nat->Prop}{m:Mp}{H:List Ob}{fz:List Bool}{i:List Bnd}{s:Mp}{E:St}{val:Nat->Value}(h:Inv w F m H fz i s E val){j:Nat}{o:Ob}(l:E.heap[j]? = some o):alive o:=by
 have f:=BU l;rw[h.lenH]at f;have u:i[j]? = some i[j]:=AWC f;have a:=h.ob j _ u;cases p:i[j]with
  |none=>rw[p]at a;simp only[B9]at a;obtain⟨_,⟨T,e,q,_⟩|⟨T,e,q⟩⟩:=a<;>(rw[l]at q;cases q;trivial)
  |whole id=>rw[p]at a;simp only[B9]at a;rcases a.2 with⟨T,t,xs,_,d,_⟩|⟨k,v,y,_,d⟩|⟨cs,x,b,c,vs,T,_,d,_⟩|⟨_,_,_,_,_,d,_⟩|⟨_,_,_,_,_,_,d,_⟩<;>(rw[l]at d;cases d;trivial)
  |cut id=>rw[p]at a;simp only[B9]at a;obtain⟨T,t,xs,n,_,_,r,_⟩:=a;rw[l]at r;cases r;trivial
theorem Fj{st:St}(h:st.heap.all CA=true)(v:AV)(l:Loc):(place st v l).heap.all CA=true:=by
 cases l with
  |cell j c=>simp only[place];split;rw[AWU]at h |-;intro o a;rcases List.mem_or_eq_of_mem_set a with b|rfl;grind;rfl;omega
  |_=>exact h
theorem K4{st:St}(h:st.heap.all CA=true){o:Ob}(a:CA o=true):(Es st o).heap.all CA=true:=by simp[Es,h,a]
theorem AE1:∀ (a:A1) (d:Be (leaves a)) (st:St),G4 a=true->st.heap.all CA=true->(enc a d st).heap.all CA=true:=by
 intro a;induction a with
  |nil=>intro d st _ h;exact h
  |cons p r f=>
   intro d st b h;obtain⟨l,c⟩:=p;cases c with
    |rows T e t=>simp[G4]at b
    |mrows j e t=>simp[G4]at b
    |aptr T e n=>exact f _ _ b (Fj (K4 h rfl) _ _)
    |own T e=>exact f _ _ b (Fj (K4 h rfl) _ _)
    |box n=>exact f _ _ b (Fj (K4 h rfl) _ _)
    |map k v=>exact f _ _ b (Fj (K4 h rfl) _ _)
    |prs T j=>exact f _ _ b (Fj (K4 h rfl) _ _)
    |_=>exact f _ _ b (Fj h _ _)
theorem Oy{a:A1}{d:Be (leaves a)}{n:Nat}(b:G4 a=true){j:Nat}{o:Ob}(h:(encode n a d).heap[j]? = some o):CA o=true:=
 AWU.1 (AE1 a d (blank n) b rfl) o (AWA h)
theorem qL{a:A1}{d:Be (leaves a)}{n:Nat}(e:G4 a=true){fz:List Bool}{x:Ix}(h:owned (encode n a d).heap fz x):x = .o x.id:=by
 cases x with
  |o i=>rfl
  |r i k=>obtain⟨o,b,_⟩:=D6 h;exact absurd h (Fk b (Oy e b))
theorem Wt{np:Nat}{outs:A1}{rs:List RS}{st:St}{y:Be (leaves outs)}(h:finish np P fn outs rs st=some y):
  ∃ vs a b d,EM P st fn.results.toList=some vs/\GQ rs vs=some a/\dec (lk a) st.heap outs st.frz []=some (y,b,d)/\(pins np 0 b&&(st.heap.take np).all CA)=true:=by unfold finish at h;grind
theorem TL{R:Type}{r:R}{l:List Nat}{m:List Bnd}{n:List Nat}{rs:List RS}{X:St}{ids:List Nat}{H:List Ob}{fz:List Bool}{k:AV->Eff->Option R}(d:Jt R l m n rs X ids H fz k=some r):
  ∃ e,k (single (Ex rs (J0 ids X.tmps.list))) e=some r/\e.heap=none/\e.objs=l.map (fun i=>(i,.dead))++ids.zip (X.heap.map (ET ids)) /\
   (∀ f (j:AV->Eff->Option f),Jt f l m n rs X ids H fz j=j (single (Ex rs (J0 ids X.tmps.list))) e) /\
   GN H (BK e.frz fz) ids m=true/\JQ ids=true /\
   ((e.frz=[]/\KQ X.tmps.list=true/\X.heap.all N5=true)\/e.frz=n):=by unfold Jt at d;split at d;rename_i a;split at d;rename_i b;simp only[AV5]at b a;refine⟨_,d,rfl,rfl,fun f j=>by simp only[Jt,a.1,a.2,b.1,b.2,AXL],b.1,b.2,.inl ⟨rfl,a.1,a.2⟩⟩;grind;rename_i a;split at d;rename_i b;simp only[AV5]at b;refine⟨_,d,rfl,rfl,fun f j=>by simp only[Jt,a,b.1,b.2,AXL],b.1,b.2,.inr rfl⟩;grind
theorem Q9{w:World}{F:Nat->Prop}{m:Mp}{H:List Ob}{fz:List Bool}{args:List AV}{a:List Value}{n:Nat}{b:A1}{x:Be (leaves b)}{k:List Bnd}{j:List Nat}(hi:HI w F m H fz)(o:BF w F m H args a)(q:args.length=n)(r:n<=fn.ntmps)(f:dec (lk args) H b fz []=some (x,k,j)):
  ∃ e i,BS w F m H fz w e m H (BK j fz)/\Inv w e m H (BK j fz) k i (encode fn.ntmps b x) (fun t=>(a.toArray++Array.replicate (fn.ntmps-a.toArray.size) undef).getD t undef) /\
   SI w e i (encode fn.ntmps b x) { tmps:=a.toArray++Array.replicate (fn.ntmps-a.toArray.size) undef,defers:=[] }:=by
 have s:=Ba o
 obtain⟨e,i,p,d,_⟩:=AAF (val:=fun t=>(a.toArray++Array.replicate (fn.ntmps-a.toArray.size) undef).getD t undef) b fz [] F (fun _=>none) (blank fn.ntmps) x k j hi
  (fun t v u=>by
   have:=jy o (fn.ntmps-a.toArray.size) t
   rw[AWd,show args[t]? = some v from u]at this
   grind) (Inv.blank fn.ntmps) f
 have l:SI w e i (encode fn.ntmps b x) { tmps:=a.toArray++Array.replicate (fn.ntmps-a.toArray.size) undef,defers:=[] }:=by refine⟨d.tmps,?_,d.hi p.2,rfl⟩;rw[N9];grind
 exact⟨e,i,p,d,l⟩
theorem cz{w:World}{F:Nat->Prop}{m:Mp}{H:List Ob}{fz:List Bool}{val:Nat->Value}{np n:Nat}{f outs:A1}{rs:List RS}{x:Be (leaves f)}{y:Be (leaves outs)}{p C:List Bnd}{Q S:List Nat}{F2:Nat->Prop}{U:Mp}{slot:Nat}{e:Eff}{ids gv:List Nat}
  (hi:HI w F m H fz) (gA:BS w F m H fz w F2 m H (BK Q fz)) (s:Inv w F2 m H (BK Q fz) p U (encode n f x) val)
  (r:p.all Bnd.ABH=true) (M:G4 f=true) (V:G4 outs=true) (W:DT (Di outs) (p.take np) slot=ids) (hgv:given (p.drop np)=gv)
  (X:e.heap=none) (he2:e.objs=gv.map (fun i=>(i,.dead))++ids.zip ((encode (cellsOf rs) outs y).heap.map (ET ids))) (hok:GN H (BK e.frz fz) ids (p.take np)=true) (hnd:JQ ids=true)
  (hfl:(e.frz=[]/\KQ (encode (cellsOf rs) outs y).tmps.list=true/\(encode (cellsOf rs) outs y).heap.all N5=true)\/e.frz=Q)
  {w':World} {N:Nat->Prop} {R:Mp} {st':St} (s1h:HI w' N R st'.heap st'.frz) (A:Il np w F2 U (encode n f x).heap (encode n f x).frz w' N R st'.heap st'.frz)
  {vs:List AV} {us:List Value} {tm:List AV} (r2:BF w' N R st'.heap vs us) (htm:GQ rs vs=some tm) (hd':dec (lk tm) st'.heap outs st'.frz []=some (y,C,S)) (hp:pins np 0 C=true) :
  ∃ N R,BS w F m H fz w' N R (DB e H) (FN e fz)/\Rep w' N R (DB e H) (single (Ex rs (J0 ids (encode (cellsOf rs) outs y).tmps.list))) (lV us):=by
 obtain⟨q1,q2,q3⟩:=wZ htm r2
 obtain⟨F3,Y,gC,d,_⟩:=AAF (val:=fun t=>(KP rs us).getD t undef) outs st'.frz [] N (fun _=>none) (blank (cellsOf rs)) y C S s1h
  (fun t v ht=>by
   obtain⟨u,hu,hru⟩:=DR q1 ht
   grind) (Inv.blank (cellsOf rs)) hd'
 have Z:∀ {j:Ix} {b c},owned (encode n f x).heap (encode n f x).frz j->U j=some (b,c)->∃ id:Nat,p[j.id]? = some (.whole id)/\owned H (BK Q fz) id/\m id=some (b,c):=by
  intro j b c B D;have G:=qL M B;obtain⟨y,id,k1,k2,k3,k4⟩:=s.src B D;rw[G]at k3 k4;rw[AWU]at r;have:=r y (AWA k1);cases y with
   |none=>simp[Bnd.id?]at k2
   |whole i=>simp only[Bnd.id?,AV3]at k2;subst k2;exact⟨_,k1,k3,k4⟩
   |cut i=>simp[Bnd.ABH]at this
 have hinj:∀ (i j id:Nat),p[i]? = some (.whole id)->p[j]? = some (.whole id)->i=j:=fun i j id h1 h2=>s.inj i j _ _ id h1 h2 rfl rfl;have z:∀ (j id:Nat),p[j]? = some (.whole id)->U j=m id/\∃ o o0,H[id]? = some o/\alive o/\(encode n f x).heap[j]? = some o0/\sameShape o o0/\alive o0/\owned H (BK Q fz) id:=by
  intro j id G;have hA:=s.ob j _ G;simp only[B9]at hA;obtain⟨eA,hA⟩:=hA;refine⟨eA,?_⟩;rcases hA with⟨T,t,xs,q,l,a3⟩|⟨k,v,es,q,l⟩|⟨cs,cs',b,cc,vs,T,q,l,_⟩|⟨_,_,_,_,q,l,_⟩|⟨_,_,_,_,_,_,l,_⟩
  exact⟨_,_,q,trivial,l,⟨rfl,rfl⟩,trivial,aE q trivial a3⟩;exact⟨_,_,q,trivial,l,trivial,trivial,by simp only[owned,Cn];grind⟩;rotate_left;exact⟨_,_,q,trivial,l,rfl,trivial,by simp only[owned,Cn];grind⟩;exact absurd (Oy M l) (by simp[CA]);exact⟨_,_,q,trivial,l,trivial,trivial,by simp only[owned,Cn];grind⟩
 have J:∀ (j id:Nat),(p.take np)[j]? = some (.whole id)->∃ o K,H[id]? = some o/\alive o/\(encode (cellsOf rs) outs y).heap[j]? = some K/\sameShape o K/\Y j=m id:=by
  intro j id I;rw[AYH]at I;split at I;case isFalse=>cases I
  rename_i hjn;obtain⟨eA,o,o0,s1,s2,s3,s4,s5,s6⟩:=z j id I;have hC:=d.ob j _ (by have:=qM _ 0 C hp j hjn;rw[AWs]at this;exact this);simp only[B9]at hC;obtain⟨eC,hC⟩:=hC;have mid:=A.comp j o0 hjn s3 (uL s5).1;have fin:∃ o2 K,st'.heap[j]? = some o2/\alive o2/\(encode (cellsOf rs) outs y).heap[j]? = some K/\sameShape o2 K:=by
   rcases hC with⟨T,t,xs,q,l,a3⟩|⟨k,v,es,q,l⟩|⟨cs,cs',b,cc,vs,T,q,l,_⟩|⟨_,_,_,_,q,l,_⟩|⟨_,_,_,_,_,_,l,_⟩
   exact⟨_,_,q,trivial,l,⟨rfl,rfl⟩⟩;exact⟨_,_,q,trivial,l,trivial⟩;rotate_left;exact⟨_,_,q,trivial,l,rfl⟩;exact absurd (Oy V l) (by simp[CA]);exact⟨_,_,q,trivial,l,trivial⟩
  obtain⟨o2,K,t1,t2,t3,t4⟩:=fin;rcases mid with md|⟨_,o2',md1,md2,md3,_⟩
  grind;rw[t1]at md1;cases md1;exact⟨o,K,s1,s2,t3,(s4.trans md2).trans t4,by grind⟩
 have L:=d.hi gC.2;have hblk:∀ j b cc:Nat,owned (encode (cellsOf rs) outs y).heap (encode (cellsOf rs) outs y).frz j->Y j=some (b,cc)->(∃ id c':Nat,(p.take np)[j]? = some (.whole id)/\m id=some (b,c'))\/(∃ k id c':Nat,np<=k/\p[k]? = some (.whole id)/\m id=some (b,c'))\/w.heap.size<=b:=by
  intro j b cc B D;obtain⟨_,i',k1,k2,k3,k4⟩:=d.src B D;rcases A.own i' b cc (L8 k3) k4 with⟨i,c0,l1,l2⟩|h;obtain⟨id,n1,n2,n3⟩:=Z l1 l2;have hio:=qL M l1;generalize i.id=i0 at n1 hio;subst hio;rcases AX1 i0 np with hin|hin;left;have n1':(p.take np)[i0]? = some (.whole id):=by grind
  obtain⟨o,K,p1,p2,p3,p4,p5⟩:=J i0 id n1';have hoi:owned (encode (cellsOf rs) outs y).heap (encode (cellsOf rs) outs y).frz i0:=aE p3 (jI d p3) (d.frz i0);by_cases hij:j=i0;grind;exact absurd rfl (L.sep j i0 b cc b c0 B hoi (AQw hij) D (by grind));grind;omega
 have O:∀ b,b<w.heap.size->(∀ (j id:Nat) (c:Nat),p[j]? = some (.whole id)->m id≠some (b,c))->w'.heap[b]? = w.heap[b]? := by intro b hb hn;refine A.keep b hb fun i cc B D => ?_;grind
 have hbnd:∀ b,F3 b->F2 b\/(∃ (j id c:Nat),p[j]? = some (.whole id)/\m id=some (b,c))\/w.heap.size<=b:=by
  have hx:∀ {i:Ix} {b cc:Nat},owned (encode n f x).heap (encode n f x).frz i->U i=some (b,cc)->∃ (j id c:Nat),p[j]? = some (.whole id)/\m id=some (b,c):=by grind
  intro b hb;rcases gC.1.bnd b hb with h|⟨i,cc,B,D⟩|h;·rcases A.bnd b h with h|⟨i,cc,B,D⟩|h;all_goals grind
  ·rcases A.own i b cc B D with⟨i',c0,B,D⟩|h;all_goals grind
  grind
 have hidl:ids.length=(encode (cellsOf rs) outs y).heap.length:=by rw[<- W,AG7];unfold encode;rw[ANo];simp[blank]
 obtain⟨FR,hFR,hRR⟩:∃ FR,((FR=F/\BK e.frz fz=fz/\(encode (cellsOf rs) outs y).heap.all N5=true)\/(FR=F3/\BK e.frz fz=BK Q fz))/\BF w' FR Y (encode (cellsOf rs) outs y).heap (encode (cellsOf rs) outs y).tmps.list (KP rs us):=by
  have hrt:BF w' F3 Y (encode (cellsOf rs) outs y).heap (encode (cellsOf rs) outs y).tmps.list (KP rs us):=by refine EE (by rw[Tm.AMS,N9,q2]) fun i a u ha hu => ?_;have:=d.tmps i;rw[AWd,hu]at this;rw[Tm.AMT ha];exact this
  rcases hfl with⟨f1,f2,f3⟩|f1;exact⟨F,.inl ⟨rfl,by rw[f1];rfl,f3⟩,BF.flat _ f2 hrt⟩;grind
 obtain⟨hgo,hmv⟩:=AIg (ids:=ids) (np:=np) hi gA (fun j id G=>(z j id G).2.elim fun _ h=>h.elim fun _ h=>h.2.2.2.2.2) hinj J hblk A.os A.tape A.output A.size O (fun b h=>gC.1.sub b (A.sub b h)) hbnd L (fun j o G=>jI d G) (fun j o G=>Oy V G) d.frz hidl hok hnd hFR;rw[hgv]at hgo hmv;have hH:DB e H=Bs (ids.zip ((encode (cellsOf rs) outs y).heap.map (ET ids))) (D7 gv H):=by rw[DI X,he2,WS];rfl
 have hZ:FN e fz=BK e.frz fz:=DY X fz;refine⟨FR,mOf ids Y m,?_,?_⟩;grind;rw[hH];exact fk (q3 _ _ _ _ _ (BF.ren hmv _ hRR))
theorem AF1(hE:∀ g,BW P g (E.spec g))(hL:Eu E)(hP:Gg P E)(hf:P.funcs[g]? = some fn)(Y:fn.body=some c)(hc:H_ P g)
  {np Z:Nat} (G:Z<=fn.ntmps) {n outs:A1} {rs:List RS} {f:Be (leaves n)->Option (Be (leaves outs))} (q:∀ x,f x=D5 np P E h fn n outs rs x) (hl:Bx P np h c 0) :
  BW P g (Bb np Z n outs rs f):=by
 intro R args H fz slot k r d;simp only[Bb]at d;split at d;cases d;rename_i x bs fr i;split at d;cases d;rename_i j;simp only[AV5,AV4]at j;obtain⟨⟨⟨a,I⟩,s⟩,t,z⟩:=j;split at d;cases d;rename_i y p;generalize l:DT (Di outs) (bs.take np) slot=ids at d;generalize A:given (bs.drop np)=gv at d;obtain⟨e,h4,J,K,h5,L,M,N⟩:=TL d;refine⟨_,e,h4,fun R' k' => ?_,hc,fun w F m vals hi hr => ?_⟩;simp only[Bb,i,a,I,s,t,z,p,AWG,AXL,l,A];grind;have hlv:=Ba hr;rw[q x]at p;unfold D5 at p;rw[Y]at p;simp only at p;obtain⟨ex,st',g1,_,g3⟩:=DM hE hL hP c 0 hl _ _ _ _ p;have b:finish np P fn outs rs st'=some y/\(ex = .normal\/ex = .ret):=by grind
 obtain⟨b,O⟩:=b;obtain⟨vs,tm,bs',fr',Q,S,T,D⟩:=Wt b;rw[AV5]at D;replace D:=D.1;refine calls_of_wp hf Y ?_;obtain⟨F2,m2,gA,B,U⟩:=Q9 hi hr s G i;refine g3 w F2 m2 _ _ U fun a' w' V W X x1 => ?_;obtain⟨us,r1,r2⟩:=L3 X Q;have C:=cz hi gA B a t z l A J K L M N X.heap x1 r2 S T D
 have o:a'.defers=[]/\∃ v,(results fn a'.tmps).run P w' = .ok v w'/\(fun(en:Ending) (w':World)=>∃ u,en = .returned u/\∃ V W,BS w F m H fz w' V W (DB e H) (FN e fz)/\Rep w' V W (DB e H) (single (Ex rs (J0 ids (encode (cellsOf rs) outs y).tmps.list))) u) (.returned v) w':=
  ⟨X.defers,_,r1,_,rfl,C⟩
 rcases O with rfl|rfl<;>exact o
end
def L9:Code->Nat->Option Code
 |.seq a b,n=>match L9 a n with
  |some c=>some c
  |none=>L9 b (n-loops a)
 |.cond _ a b,n=>match L9 a n with
  |some c=>some c
  |none=>L9 b (n-loops a)
 |.block _ c,n=>L9 c n
 |.loop c,n=>match n with
  |0=>some c
  |n+1=>L9 c n
 |_,_=>none
def CE(f:Func):Code:=match f.body with
 |some c=>c
 |none=>.skip
def DU(f:Func)(n:Nat):Code:=(L9 (CE f) n).getD .skip
def Cy:Code->Nat->List (Nat×Code)
 |.seq a b,n=>Cy a n++Cy b (n+loops a)
 |.cond _ a b,n=>Cy a n++Cy b (n+loops a)
 |.block _ c,n=>Cy c n
 |.loop c,n=>[(n,c)]
 |_,_=>[]
def jW(P:Program)(np:Nat)(h:Hints):List (Nat×Code)->Prop
 |[]=>True
 |p::l=>Jy P np (.loop p.2) (h.loop p.1)/\jW P np h l
theorem jV{P:Program}{np:Nat}{h:Hints}:∀ {a b:List (Nat×Code)},jW P np h (a++b)->jW P np h a/\jW P np h b:=by
 intro a;induction a with
  |nil=>exact fun h=>⟨trivial,h⟩
  |cons p a c=>intro b h;exact⟨⟨h.1,(c h.2).1⟩,(c h.2).2⟩
theorem uT{P:Program}{np:Nat}{h:Hints}:∀ (c:Code) (n:Nat),jW P np h (Cy c n)->Bx P np h c n:=by
 intro c;induction c with
  |seq a b d e=>intro n f;have:=jV f;exact⟨d n this.1,e _ this.2⟩
  |cond c a b d e=>intro n f;have:=jV f;exact⟨d n this.1,e _ this.2⟩
  |block id c g=>intro n f;exact g n f
  |loop c g=>intro n f;exact f.1
  |_=>intro n _;trivial
theorem Et{P:Program}{np:Nat}{h:Hints}{c:Code}{n:Nat}{l:List (Nat×Code)}(e:Cy c n=l)(a:jW P np h l):Bx P np h c n:=uT c n (by grind)
def Bn(P:Program)(E:Env):Prop:=(∀ g,BW P g (E.spec g))/\Eu E/\Gg P E
def Env.none:Env:={ spec:=fun _ _ _ _ _ _ _=>Option.none,loc:=fun _=>false,G9:=fun _=>true }
theorem Env.AQx{P:Program}:Bn P Env.none:=⟨fun g R args H fz slot k r h=>by simp[Env.none]at h,⟨fun g h=>by simp[Env.none]at h,fun g _ R args H H' fz fz' slot k S _ _ _=>rfl⟩,fun g s h=>by cases h⟩
def Env.ext(E:Env)(g:FuncId)(loc G9:Bool)(s:Spec):Env where
 spec x:=match Nat.beq x g with
  |true=>s
  |false=>E.spec x
 loc x:=match Nat.beq x g with
  |true=>loc
  |false=>E.loc x
 G9 x:=match Nat.beq x g with
  |true=>G9
  |false=>E.G9 x
 pan x:=match Nat.beq x g with
  |true=>.none
  |false=>E.pan x
theorem Env.CU{P:Program}{E:Env}{g:FuncId}{loc G9:Bool}{s:Spec}(h:Bn P E)(e:BW P g s)(f:loc=true->HP s)(c:G9=true->Ik s):Bn P (E.ext g loc G9 s):=by
 refine⟨?_,⟨?_,?_⟩,fun x d a => ?_⟩;intro x;simp only[Env.ext];cases a:Nat.beq x g with
  |true=>simp_all
  |false=>exact h.1 x
 intro x a;simp only[Env.ext]at a |-;cases b:Nat.beq x g with
  |true=>grind
  |false=>rw[b]at a;exact h.2.1.1 x a
 intro x a;simp only[Env.ext]at a |-;cases b:Nat.beq x g with
  |true=>grind
  |false=>rw[b]at a;exact h.2.1.2 x a
 simp only[Env.ext]at a |-;cases b:Nat.beq x g with
  |true=>grind
  |false=>rw[b]at a;exact h.2.2 x d a
section
variable {P:Program} {E:Env} {h:Hints} {g:FuncId} {fn:Func}
theorem Gb(a:fn.body.isSome=true):fn.body=some (CE fn):=by unfold CE;grind
theorem I7 (hE : Bn P E) (hf : P.funcs[g]? = some fn) (hb : fn.body.isSome = true) (hn : (fn.name == "runtime.NumGoroutine") = false)
  {np na:Nat} (hna:(Nat.ble na fn.ntmps)=true) {its outs:A1} {rs:List RS} {f:Be (leaves its)->Option (Be (leaves outs))} (hfun:∀ x,f x=D5 np P E h fn its outs rs x) (hl:Bx P np h (CE fn) 0) :
  BW P g (Bb np na its outs rs f):=
 AF1 hE.1 hE.2.1 hE.2.2 hf (Gb hb) (Cb hf hb hn) (AWl hna) hfun hl
theorem B4 (hE : Bn P E) (hf : P.funcs[g]? = some fn) (hb : fn.body.isSome = true) (hn : (fn.name == "runtime.NumGoroutine") = false) (hl : loops (CE fn) = 0) : BW P g (CL P E h fn) :=
 rO hE.1 hE.2.1 hE.2.2 hf (Gb hb) (Cb hf hb hn) hl
theorem SK{e:Hints}(d:Bn P E){np f n:Nat}{a:Code}{b:A1}{os:BH}{stp:Be (leaves b)->Option (Be (leaves b)⊕dJ os)}
  (c:∀ v,stp v=roundOf P E e n np f a b os v) (i:Bx P np e a n):Jy P np (.loop a) (ME np f b os stp):=AGc d.1 d.2.1 d.2.2 c i
def cT:A1->Bool
 |[]=>true
 |(.tmp _,.dat _)::r=>cT r
 |_::_=>false
theorem AH5{H H':List Ob}{d:List AV}(j:∀ id∈B0 d,H[id]? = H'[id]?):∀ (b:A1) (fz fz':List Bool),cT b=true->dec (lk d) H b fz []=dec (lk d) H' b fz' []:=by
 intro b;induction b with
  |nil=>intro fz fz' _;rfl
  |cons p r k=>
   intro fz fz' hd;obtain⟨l,c⟩:=p;cases l<;>cases c<;>simp only[cT]at hd<;>try (cases hd;done)
   rename_i t ty;simp only[dec,look];cases f:lk d t with
    |none=>rfl
    |some v=>
     have e:∀ id∈BT v,H[id]? = H'[id]? := fun id i=>j id (by
      clear k hd j;unfold lk at f;induction d generalizing t with
       |nil=>grind
       |cons a d m=>
        cases t with
         |zero=>simp at f;subst f;simp[B0,i]
         |succ t=>simp only[B0,AWL];grind)
     simp only;rw[XB ty v e];grind
theorem AG5:∀ (n slot:Nat),DT n [] slot=List.range' slot n:=by
 intro n;induction n with
  |zero=>intro slot;rfl
  |succ n a=>intro slot;simp only[DT,AXp];rw[a]
theorem Wn{H H':List Ob}{fz fz':List Bool}:∀ (ids:List Nat),(∀ i∈ids,Bd H fz i=Bd H' fz' i)->GN H fz ids []=GN H' fz' ids []:=by
 intro ids;induction ids with
  |nil=>intro _;rfl
  |cons a ids b=>intro h;simp only[GN,List.tail_nil];grind
theorem AAG{H:List Ob}{f:List AV}:∀ (a:A1) (fz:List Bool) (d:List Bnd) (x:Be (leaves a)) (b:List Bnd) (e:List Nat),cT a=true->dec (lk f) H a fz d=some (x,b,e)->b=d:=by
 intro a;induction a with
  |nil=>intro fz d x b e _ h;simp only[dec,AV3]at h;grind
  |cons p r i=>
   intro fz d x b e hd h;obtain⟨l,c⟩:=p;cases l<;>cases c<;>simp only[cT]at hd<;>try (cases hd;done)
   simp only[dec]at h;grind
theorem MB{np l:Nat}{a outs:A1}{rs:List RS}{f:Be (leaves a)->Option (Be (leaves outs))}(hd:cT a=true)(m:Nat.ble (Di outs) 4=true):HP (Bb np l a outs rs f):=by
 intro R args H H' fz fz' slot k e;unfold Bb;rw[AH5 e.heap a fz fz' hd];split;rfl;rename_i x n j c;have d:=AAG a fz' [] x n j hd c;subst d;split;rfl;split;rfl;rename_i y o;simp only[List.take_nil,List.drop_nil];have b:∀ (g:List Nat) (i:Nat),i∈DT (Di outs) [] slot->Bd H (BK g fz) i=Bd H' (BK g fz') i:=by intro g i hi;rw[AG5,List.mem_range'_1]at hi;have:=AWl m;exact E3 e hi.1 (by omega) g
 unfold Jt;rw[show GN H fz (DT (Di outs) [] slot) []=GN H' fz' (DT (Di outs) [] slot) []from Wn _ (b []),Wn _ (b j)]
end
def nK{α:Type}(xs:List α):Option (List α):=match sT (A2 xs)with
 |true=>some xs
 |false=>none
def IH[Lk]{α:Type}(xs:List α):Option (List α):=Lk.f (nK xs)
theorem iq{α:Type}(xs:List α):IH xs=nK xs:=A0 _
noncomputable def ER[Lk](e:TypeId)(t:Ty):Spec:=fun R args H fz slot k=>
 match args with
 |[x]=>match Fx H (.slice t) x with
  |some (xs,_)=>match(IH xs:Option (List t.den))with
   |none=>none
   |some y=>(match Bd H fz slot with|true=>k (.own slot) { objs:=[(slot,.arr e t y)] }|false=>none)
  |none=>none
 |_=>none
def aI:Code->Nat->List Oper
 |.region id ops _,n=>if id=n then ops.toList else []
 |.seq a b,n=>aI a n++aI b n
 |.cond _ a b,n=>aI a n++aI b n
 |.block _ c,n=>aI c n
 |.loop c,n=>aI c n
 |_,_=>[]
def CS(fn:Func)(n i:Nat):Oper:=((aI (CE fn) n)[i]?).getD default
structure HQ(P:Program)(fn:Func)(T e:TypeId)(t:Ty):Prop where
 body:fn.body=some (.seq (.region 0 #[CS fn 0 0] false) (.seq (.seq (.region 1 #[CS fn 1 0,CS fn 1 1] false) (.cond (.tmp 4) (.seq (.region 2 #[CS fn 2 0] false) .ret) .skip)) (.seq (.region 3 #[CS fn 3 0,CS fn 3 1,CS fn 3 2,CS fn 3 3] false) .ret)))
 nt:fn.ntmps=8
 res:fn.results = #[.tmp 2]
 d:(CS fn 0 0).dst=some 2/\(CS fn 1 0).dst=some 3/\(CS fn 1 1).dst=some 4/\(CS fn 2 0).dst=some 2/\(CS fn 3 0).dst=some 5/\(CS fn 3 1).dst=some 6/\(CS fn 3 2).dst=some 7/\(CS fn 3 3).dst=some 2
 g:(CS fn 0 0).guard=none/\(CS fn 1 0).guard=none/\(CS fn 1 1).guard=none/\(CS fn 2 0).guard=none/\(CS fn 3 0).guard=none/\(CS fn 3 1).guard=none/\(CS fn 3 2).guard=none/\(CS fn 3 3).guard=none
 o00:(CS fn 0 0).op = .assign (.const (.slice none 0 0))
 o10:(CS fn 1 0).op = .move (.tmp 0)
 o11:(CS fn 1 1).op = .binOp .eql T (.tmp 3) (.const (.slice none 0 0)) T
 o20:(CS fn 2 0).op = .assign (.const (.slice none 0 0))
 o30:(CS fn 3 0).op = .buildSlice T 0 #[]
 o31:(CS fn 3 1).op = .move (.tmp 0)
 o32:(CS fn 3 2).op = .call { callee:=.builtin .append,args:=#[.tmp 5,.tmp 6],argTypes:=#[T,T] }
 o33:(CS fn 3 3).op = .assign (.tmp 7)
 sl:sliceAt P T=some (e,t)
 z:(zeroAt P e).isSome=true
 by1:(P.info? e).map (fun i=>decide (i.bytes<=1024))=some true
section
variable {P:Program} {g:FuncId}
theorem C_{ops:Array Oper}{Q:Exit->Act->World->Prop}{i:Nat}{b:List Nat}{a:Act}{w:World}{o:Oper}(c:ops[i]? = some o)(d:o.guard=none)(h:o.wp P a w (wpOps P ops Q b) Q):wpOps P ops Q (i::b) a w:=by simp only[wpOps,c];rw[AWB (by simp[Region.wanted,d])];grind
theorem Cx{o:Oper}{a:Act}{w w':World}{next:Act->World->Prop}{Q:Exit->Act->World->Prop}{u:Value}(h:(execOp a.eval o).run P w = .ok (.value u) w')(b:next (a.put o.dst u) w'):o.wp P a w next Q:=by unfold Oper.wp;rw[h];exact b
variable {fn:Func} {T e:TypeId} {t:Ty}
theorem LO{P:Program}{w:World}{ρ:Operand->Value}{o:Oper}{x:Operand}(h:o.op = .move x):(execOp ρ o).run P w = .ok (.value (ρ x)) w:=by simp[execOp,h]
theorem Hv{P:Program}{w:World}{ρ:Operand->Value}{o:Oper}{x:Operand}(h:o.op = .assign x):(execOp ρ o).run P w = .ok (.value (ρ x)) w:=by simp[execOp,h]
theorem ON (hs : HQ P fn T e t) (hf : P.funcs[g]? = some fn) (hn : (fn.name == "runtime.NumGoroutine") = false) : BW P g (ER e t) := by
 intro R args H fz slot k r hk;unfold ER at hk;split at hk;rename_i x;split at hk;rename_i xs fr hx;split at hk;cases hk;rename_i y hy;split at hk;rename_i hfree;refine⟨_,_,hk,fun R' k'=>by simp only[ER,hx,hy,hfree],Cb hf (by rw[hs.body];rfl) hn,fun w F m vals hi hr => ?_⟩;rw[iq]at hy;unfold nK at hy;split at hy;rename_i hfit;simp only[AV3]at hy;subst hy;have hr0:=hr;unfold BF at hr;obtain⟨v,vs',rfl,hrv,hnil⟩:=hr;unfold BF at hnil;subst hnil;obtain⟨hu,hty0,hpos⟩:=Cr hs.sl;obtain⟨zz,hzz⟩:=AXB.1 hs.z;obtain⟨t',cs'⟩:=zz;obtain⟨hty',hcs',i,z,hi0,hz0,hok,hsz,hza⟩:=CX hzz;subst hcs';have:t'=t:=by grind
 subst this;have hzs:z.cells.size=i.size:=by have hzd:=CO (w:=default) (F:=fun _=>False) t' _ hok;rw[hsz,<- AWP];exact Dat.length t' hzd
 have hby':i.bytes<=1024:=by simpa [hi0]using hs.by1
 obtain⟨A,c,rfl,q2,q3,news,q4,q5⟩:=Ep hi hx hrv;have hfit':xs.length<=4294967296:=by have:(xs.length:Int)<=4294967296:=(VF _).1 hfit;omega
 refine calls_of_wp hf hs.body ?_;obtain⟨d0,d1,d2,d3,d4,d5,d6,d7⟩:=hs.d;obtain⟨g0,g1,g2,g3,g4,g5,g6,g7⟩:=hs.g;have hres:∀ (tm:Array Value) (w0:World),(results fn tm).run P w0 = .ok (tm.getD 2 undef) w0:=fun tm w0=>by simp[results,hs.res]
 refine wp_seq (wp_region ?_);simp only[AXJ,AWD,AWK,AWX,AYL,AWh];refine C_ (by rfl) g0 (Cx (Hv hs.o00) ?_);refine wp_seq (wp_seq (wp_region ?_));simp only[AXJ,AWD,AWK,AWX,AYL,AWh,AWa];refine C_ (by rfl) g1 (Cx (LO hs.o10) ?_);refine C_ (by rfl) g2 (Cx (u:=.bool A.isNone) (w':=w) (by simp[execOp,hs.o11,Act.eval,Act.put,d0,d1,hs.nt,eqGuard,Lib.run_eql_slice_nil _ _ _ _ _ _ _ _ hu]) ?_);cases A with
  |none=>
   have hxs:xs=[]:=by grind
   subst hxs;refine wp_cond_true (by simp[Act.eval,Act.put,d0,d1,d2,hs.nt]) ?_;refine wp_seq (wp_region ?_);simp only[AXJ,AWD,AWK,AWX,AYL,AWh];refine C_ (by rfl) g3 (Cx (Hv hs.o20) ?_);refine wp_ret ?_;refine⟨by simp[Act.put,d0,d1,d2,d3],_,hres _ _,?_⟩;obtain⟨m',hg,hrep⟩:=Ek (w:=w) hi hfree e hpos none;refine⟨_,rfl,F,m',hg,?_⟩;show Rep _ _ _ (H.set slot _) _ _;simpa [Act.put,Act.eval,d0,d1,d2,d3,hs.nt]using hrep
  |some ad=>
   refine wp_cond_false (by simp[Act.eval,Act.put,d0,d1,d2,hs.nt]) ?_;refine wp_skip ?_;refine wp_seq (wp_region ?_);simp only[AXJ,AWD,AWK,AWX,AYL,AWh,AWa];refine C_ (by rfl) g4 (Cx (u:=.slice (some ⟨w.heap.size,0,none⟩) 0 0) (w':=w.alloc (.cells #[] e)) (by have:=JF (P:=P) (w:=w) (len:=0) (parts:=#[]) (us:=#[]) hu hi0 hz0 hsz (by omega) (by simp[Instr.fill]);simp[execOp,hs.o30,this]) ?_)
   refine C_ (by rfl) g5 (Cx (LO hs.o31) ?_);have hga:=BS.grow (w':=w.alloc (.cells #[] e)) hi rfl rfl rfl (by simp) (fun b hb=>Below.heap_alloc w _ b hb)
   obtain⟨v,w',m',hrun,hg,hrep⟩:=Gc (P:=P) (T:=T) (ty:=(CS fn 3 2).type) hga.2 hfree hu hi0 hz0 hzs hsz hpos hby' hfit' (some ⟨w.heap.size,0,none⟩) (A:=some ad) (c:=c) (ys:=xs) (news:=news) (fun _=>rfl)
    (B7 (fun x _ cs hx=>hx.mono (fun a ha=>by simp[World.cell?,Below.heap_alloc w _ _ (hi.lt _ ha)]) (fun _ h=>h) t') q4) (fun ad' h j u hu'=>by
     have:=q5 ad' h j u hu'
     exact Lib.cell?_alloc_some _ this)
   refine C_ (by rfl) g6 (Cx (u:=v) (w':=w') (by simp[execOp,hs.o32,resolve,invoke,builtin,Act.eval,Act.put,d0,d1,d2,d4,d5,hs.nt,hrun]) ?_)
   refine C_ (by rfl) g7 (Cx (Hv hs.o33) ?_);refine wp_ret ?_;refine⟨by simp[Act.put,d0,d1,d2,d4,d5,d6,d7],_,hres _ _,?_⟩;refine⟨_,rfl,F,m',hga.trans hg,?_⟩;show Rep _ _ _ (H.set slot _) _ _;simpa [Act.put,Act.eval,d0,d1,d2,d4,d5,d6,d7,hs.nt]using hrep
 grind;grind;grind;grind
theorem CJ(e:TypeId)(t:Ty):HP (ER e t):=by
 intro R args H H' fz fz' slot k b;unfold ER;cases args with
  |nil=>rfl
  |cons x r=>cases r with
   |cons y r=>rfl
   |nil=>
    simp only
    rw[Cq (.slice t) x fun id a=>b.heap id (by simpa [B0]using a)]
    have:=E3 b (s:=slot) (AV8 _) (by omega) []
    simp only[BK]at this
    rw[this]
end
abbrev U0:Ty:=(.int .i64)
abbrev U1:Ty:=(.prod U0 (.prod U0 (.prod U0 (.prod .bool .unit))))
abbrev U2:=(Int×Int×Int×Bool×Unit)
abbrev U3:Ty:=(.prod U0 (.prod U0 .unit))
abbrev U4:=(Int×Int×Unit)
abbrev U5:=(List Int)
abbrev U6:Ty:=(.slice U0)
abbrev U7:=(Int×Int×Int×Int×Unit)
abbrev U8:=(Int×Int×Int×Unit)
abbrev U9:=(Int×Unit)
abbrev Ua:=(Bool×Unit)
abbrev Ub:Ty:=(.prod U0 (.prod U0 U3))
abbrev Uc:=(Int×(List U2)×Unit)
abbrev Ud:Ty:=(.slice U6)
abbrev Ue:=(List Int×Unit)
abbrev Uf:=(List Int×Int×Unit)
abbrev Ug:=(Int×Int×U5×Unit)
abbrev Uh:=(List Int×Int×Int×Unit)
abbrev Ui:Ty:=(.int .u32)
abbrev Uj:=(U5×U5×(List U5)×Unit)
abbrev Uk:Ty:=(.prod U0 (.prod (.slice U1) .unit))
abbrev Ul:=(List U7×Int×List Bool×List U5×Bool×Int×Int×List U2×Int×Unit)
abbrev Um:Ty:=(.prod U0 (.prod U0 (.prod (.slice (.arr 2 U0)) .unit)))
abbrev Un:=(Int×(List U5)×Unit)
abbrev Uo:=(Int×(List U4)×(List U8)×Unit)
abbrev Up:Ty:=(.prod U0 (.prod U0 (.prod U6 .unit)))
abbrev Uq:Ty:=(.slice U1)
abbrev Ur:=(Int×Int×(List U5)×Unit)
abbrev Us:Ty:=(.prod U0 (.prod (.slice U3) (.prod (.slice (.prod U0 U3)) .unit)))
abbrev Ut:=(Uc×Int×Int×Unit)
abbrev Uu:=(Int×Int)
abbrev Uv:Ty:=(.slice .bool)
abbrev Uw:=(Int×List U2×Bool×Bool×Int×Int×Int×Int×Int×List Uu×List Int×Int×Int×Unit)
abbrev Ux:Ty:=(.prod U6 (.prod U6 (.prod Ud .unit)))
abbrev Uy:=(List U7×Int×List Bool×List U5×Bool×Int×Int×Int×Int×Int×Bool×Int×Unit)
abbrev Uz:=(Bool×Bool×U4×Int×Unit)
abbrev V0:=(List Int×List Int×Int×Int×Unit)
abbrev V1:Ty:=(.slice Ui)
abbrev V2:=(List Int×List Int×Unit)
abbrev V3:=(List Int×List Int×List Int×Int×Int×Unit)
abbrev V4:Ty:=(.slice U3)
abbrev V5:Ty:=(.slice Ub)
abbrev V6:=(Int×List U5×List Bool×Int×Int×Int×List Int×Int×List Int×Int×Bool×Int×List Int×Bool×Bool×List Int×List Int×List U5×List Int×List U5×Bool×Bool×List Int×Int×Int×Bool×Unit)
abbrev V7:=(List Int×List Int×Int×Int×List Int×List Int×Int×Int×Unit)
abbrev V8:=(Int×List U5×List Uu×Int×List U5×Int×Int×List Int×Int×Int×Bool×List Int×Bool×Bool×List Int×Int×List Int×Int×Bool×Int×List Int×Bool×Bool×List Int×Int×Int×Unit)
abbrev V9:=(Int×List Int×Int×List Int×Int×Bool×Bool×Bool×Bool×Int×Int×Bool×Int×Int×Int×Int×Int×Bool×Int×Int×Int×Int×Int×Int×Int×Int×Int×Bool×Unit)
abbrev Va:Ty:=(.prod (.prod V5 (.prod U0 (.prod Uv .unit))) (.prod Ud (.prod .bool U3)))
abbrev Vb:=(List U7×Int×List Bool×List U5×Bool×Int×Int×List Uu×List U5×Int×Int×Unit)
abbrev Vc:Ty:=(.prod .bool (.prod .bool (.prod U3 (.prod U0 .unit))))
abbrev Vd:=(List Int×Int×Int×Int×List Int×Int×Int×Unit)
abbrev Ve:=(List Int×Int×List Int×List Int×List U5×Int×List Int×Int×Int×Unit)
abbrev Vf:=(List U4×Unit)
abbrev Vg:=(U4×Int)
abbrev Vh:Ty:=(.prod U0 (.prod U0 (.prod Um .unit)))
abbrev Vi:=(Int×List U5×Int×Unit)
abbrev Vj:=(List Int×Int×List Int×Int×Int×List Int×List Int×Int×Int×Unit)
abbrev Vk:Ty:=(.prod U0 (.prod Ud .unit))
abbrev Vl:=(List Int×Int×List Int×List Int×List U5×List Int×Int×Int×Unit)
abbrev Vm:Ty:=(.prod U0 U3)
abbrev Vn:=(Int×Bool×Bool×Int×Int×Int×Int×Int×Int×Bool×Int×List U2×Bool×Bool×Int×Int×Int×Int×Int×Unit)
abbrev AA:Loc×Con:=(.tmp 0,.dat Ui)
abbrev HX:A1:=[AA]
abbrev AB:Loc×Con:=(.tmp 0,.di)
abbrev BP:A1:=[AB]
abbrev A7:List RS:=[.one]
def ACV[Lk]:U9->Option (U9):=fun(a,_)=>
 match(ile 65536 a)with
 |true=>match shr? .u32 a 16 with|none=>none|some b=>match(ile 256 b)with
  |true=>match shr? .u32 b 8 with|none=>none|some c=>match idx ([0,1,2,2,3,3,3,3,4,4,4,4,4,4,4,4,5,5,5,5,5,5,5,5,5,5,5,5,5,5,5,5,6,6,6,6,6,6,6,6,6,6,6,6,6,6,6,6,6,6,6,6,6,6,6,6,6,6,6,6,6,6,6,6,7,7,7,7,7,7,7,7,7,7,7,7,7,7,7,7,7,7,7,7,7,7,7,7,7,7,7,7,7,7,7,7,7,7,7,7,7,7,7,7,7,7,7,7,7,7,7,7,7,7,7,7,7,7,7,7,7,7,7,7,7,7,7,7,8,8,8,8,8,8,8,8,8,8,8,8,8,8,8,8,8,8,8,8,8,8,8,8,8,8,8,8,8,8,8,8,8,8,8,8,8,8,8,8,8,8,8,8,8,8,8,8,8,8,8,8,8,8,8,8,8,8,8,8,8,8,8,8,8,8,8,8,8,8,8,8,8,8,8,8,8,8,8,8,8,8,8,8,8,8,8,8,8,8,8,8,8,8,8,8,8,8,8,8,8,8,8,8,8,8,8,8,8,8,8,8,8,8,8,8,8,8,8,8,8,8,8,8,8,8,8,8]:List (Int)) (IntKind.wrap .u8 c)with|none=>none|some d=>some ((w64 ((w64 (16+8))+(w64 d))),())
  |false=>match idx ([0,1,2,2,3,3,3,3,4,4,4,4,4,4,4,4,5,5,5,5,5,5,5,5,5,5,5,5,5,5,5,5,6,6,6,6,6,6,6,6,6,6,6,6,6,6,6,6,6,6,6,6,6,6,6,6,6,6,6,6,6,6,6,6,7,7,7,7,7,7,7,7,7,7,7,7,7,7,7,7,7,7,7,7,7,7,7,7,7,7,7,7,7,7,7,7,7,7,7,7,7,7,7,7,7,7,7,7,7,7,7,7,7,7,7,7,7,7,7,7,7,7,7,7,7,7,7,7,8,8,8,8,8,8,8,8,8,8,8,8,8,8,8,8,8,8,8,8,8,8,8,8,8,8,8,8,8,8,8,8,8,8,8,8,8,8,8,8,8,8,8,8,8,8,8,8,8,8,8,8,8,8,8,8,8,8,8,8,8,8,8,8,8,8,8,8,8,8,8,8,8,8,8,8,8,8,8,8,8,8,8,8,8,8,8,8,8,8,8,8,8,8,8,8,8,8,8,8,8,8,8,8,8,8,8,8,8,8,8,8,8,8,8,8,8,8,8,8,8,8,8,8,8,8,8,8]:List (Int)) (IntKind.wrap .u8 b)with|none=>none|some e=>some ((w64 (16+(w64 e))),())
 |false=>match(ile 256 a)with
 |true=>match shr? .u32 a 8 with|none=>none|some f=>match idx ([0,1,2,2,3,3,3,3,4,4,4,4,4,4,4,4,5,5,5,5,5,5,5,5,5,5,5,5,5,5,5,5,6,6,6,6,6,6,6,6,6,6,6,6,6,6,6,6,6,6,6,6,6,6,6,6,6,6,6,6,6,6,6,6,7,7,7,7,7,7,7,7,7,7,7,7,7,7,7,7,7,7,7,7,7,7,7,7,7,7,7,7,7,7,7,7,7,7,7,7,7,7,7,7,7,7,7,7,7,7,7,7,7,7,7,7,7,7,7,7,7,7,7,7,7,7,7,7,8,8,8,8,8,8,8,8,8,8,8,8,8,8,8,8,8,8,8,8,8,8,8,8,8,8,8,8,8,8,8,8,8,8,8,8,8,8,8,8,8,8,8,8,8,8,8,8,8,8,8,8,8,8,8,8,8,8,8,8,8,8,8,8,8,8,8,8,8,8,8,8,8,8,8,8,8,8,8,8,8,8,8,8,8,8,8,8,8,8,8,8,8,8,8,8,8,8,8,8,8,8,8,8,8,8,8,8,8,8,8,8,8,8,8,8,8,8,8,8,8,8,8,8,8,8,8,8]:List (Int)) (IntKind.wrap .u8 f)with|none=>none|some g=>some ((w64 ((w64 (0+8))+(w64 g))),())
 |false=>match idx ([0,1,2,2,3,3,3,3,4,4,4,4,4,4,4,4,5,5,5,5,5,5,5,5,5,5,5,5,5,5,5,5,6,6,6,6,6,6,6,6,6,6,6,6,6,6,6,6,6,6,6,6,6,6,6,6,6,6,6,6,6,6,6,6,7,7,7,7,7,7,7,7,7,7,7,7,7,7,7,7,7,7,7,7,7,7,7,7,7,7,7,7,7,7,7,7,7,7,7,7,7,7,7,7,7,7,7,7,7,7,7,7,7,7,7,7,7,7,7,7,7,7,7,7,7,7,7,7,8,8,8,8,8,8,8,8,8,8,8,8,8,8,8,8,8,8,8,8,8,8,8,8,8,8,8,8,8,8,8,8,8,8,8,8,8,8,8,8,8,8,8,8,8,8,8,8,8,8,8,8,8,8,8,8,8,8,8,8,8,8,8,8,8,8,8,8,8,8,8,8,8,8,8,8,8,8,8,8,8,8,8,8,8,8,8,8,8,8,8,8,8,8,8,8,8,8,8,8,8,8,8,8,8,8,8,8,8,8,8,8,8,8,8,8,8,8,8,8,8,8,8,8,8,8,8,8]:List (Int)) (IntKind.wrap .u8 a)with|none=>none|some h=>some ((w64 (0+(w64 h))),())
def ASx[Lk]:=lkk ACV
theorem AMV v:ASx v=ACV v:=A0 _
abbrev AD:Loc×Con:=(.tmp 0,.dat U6)
abbrev AE:Loc×Con:=(.tmp 1,.dat U6)
abbrev LH:A1:=[AD,AE]
abbrev AF:Loc×Con:=(.tmp 0,.dat .bool)
abbrev BI:A1:=[AF]
abbrev AG:Loc×Con:=(.tmp 5,.di)
abbrev AG0:A1:=[AD,AE,AG]
abbrev AH:Loc×Con:=(.tmp 4,.dat .bool)
abbrev I3:BH:=[(.ret,[AH]),(.exit 0,[])]
def I2[Lk]:(List Int×List Int×Int×Unit)->Option ((List Int×List Int×Int×Unit)⊕Ua⊕(Unit)⊕Unit):=fun(b,c,a,_)=>
 match(ilt a (A2 b))with
 |true=>match idx b a with|none=>none|some d=>match idx c a with|none=>none|some e=>match(!(ieq d e))with
  |true=>some (.inr (.inl (false,())))
  |false=>some (.inl (b,c,(w64 (a+1)),()))
 |false=>some (.inr (.inr (.inl ())))
def aw[Lk]:V2->Option (Ua):=fun(a,b,_)=>
 match(!(ieq (A2 a) (A2 b)))with
 |true=>some (false,())
 |false=>match A8 I2 many (a,b,0,())with|none=>none|some r=>match r with
 |.inl (c,_)=>some (c,())
 |.inr r=>match r with
 |.inl _=>some (true,())
 |.inr _=>none
def Qi[Lk]:=lkk aw
theorem iB v:Qi v=aw v:=A0 _
def Yt[Lk]:U9->Option (Ua):=fun(a,_)=>
 match(ile 1 a)with
 |true=>some ((ile a 64),())
 |false=>some (false,())
def Px[Lk]:=lkk Yt
theorem fO v:Px v=Yt v:=A0 _
abbrev AI:Loc×Con:=(.tmp 1,.di)
abbrev Ku:A1:=[AB,AI]
def AJh[Lk]:U4->Option (Ua):=fun(a,b,_)=>
 match Px (a,())with|none=>none|some (c,_)=>match c with
 |true=>match(ile 0 b)with
  |true=>some ((ilt b a),())
  |false=>some (false,())
 |false=>some (false,())
def tin[Lk]:=lkk AJh
theorem AJg v:tin v=AJh v:=A0 _
abbrev AJ:Loc×Con:=(.tmp 2,.di)
abbrev j7:A1:=[AB,AI,AJ]
def vP[Lk]:U8->Option (U9):=fun(a,b,c,_)=>
 match(ieq b c)with
 |true=>some ((-1:Int),())
 |false=>match tin (a,b,())with|none=>none|some (d,_)=>match(!d)with
 |true=>some ((-1:Int),())
 |false=>match tin (a,c,())with|none=>none|some (e,_)=>match(!e)with
 |true=>some ((-1:Int),())
 |false=>some ((w64 ((w64 (a*(w64 (b+1))))+c)),())
def AJm[Lk]:=lkk vP
theorem ABS v:AJm v=vP v:=A0 _
abbrev AK:Loc×Con:=(.tmp 2,.dat .bool)
abbrev oo:A1:=[AB,AI,AK,(.tmp 3,.dat .bool)]
abbrev NG:List RS:=[.one,.one,.one,.one]
def Ys[Lk]:U4->Option ((Int×Int×Bool×Bool×Unit)):=fun(a,b,_)=>
 match Px (a,())with|none=>none|some (e,_)=>match(!e)with
 |true=>some (0,0,false,false,())
 |false=>match(ilt b 0)with
 |true=>some (0,0,false,false,())
 |false=>match(ile (w64 (a*(w64 (a+1)))) b)with
 |true=>some (0,0,false,false,())
 |false=>match(ilt b a)with
 |true=>some (b,0,false,true,())
 |false=>match quo? .i64 b a with|none=>none|some c=>match rem? b a with|none=>none|some d=>match(ieq (w64 (c-1)) d)with
 |true=>some (0,0,false,false,())
 |false=>some ((w64 (c-1)),d,true,true,())
def jr[Lk]:=lkk Ys
theorem fM v:jr v=Ys v:=A0 _
abbrev ABP:A1:=[AB,(.tmp 1,.own 36 U6),AJ]
abbrev Xp:List RS:=[.agg 2,.one]
abbrev AL:Loc×Con:=(.cell 1 1,.own 36 U6)
abbrev AM:Loc×Con:=(.cell 0 1,.nil U6)
abbrev AN:Loc×Con:=(.cell 0 0,.di)
abbrev AO:Loc×Con:=(.tmp 4,.box 2)
abbrev AP:Loc×Con:=(.tmp 2,.box 2)
abbrev AQ:Loc×Con:=(.cell 1 0,.di)
abbrev AR:Loc×Con:=(.tmp 12,.di)
abbrev AS:Loc×Con:=(.tmp 13,.di)
abbrev AJb:A1:=[AP,AN,AM,AO,AQ,AL,AR,AS]
abbrev pC:BH:=[(.exit 0,[AP,AN,AM,AO,AQ,AL])]
def NI[Lk]:(Int×Int×List U5×Int×Int×Unit)->Option ((Int×Int×List U5×Int×Int×Unit)⊕(Int×Int×List U5×Unit)⊕Unit):=fun(c,d,b,e,a,_)=>
 match(ilt a e)with
 |true=>match(fits ((A2 b)+(A2 ([([a]:List (Int))]:List U5))))with
  |true=>some (.inl (c,d,(BV b ([([a]:List (Int))]:List U5)),e,(w64 (a+1)),()))
  |false=>none
 |false=>some (.inr (.inl (c,d,b,())))
def jz[Lk]:U9->Option (Vi):=fun(a,_)=>
 match Px (a,())with|none=>none|some (b,_)=>match(!b)with
 |true=>some (0,([]:List U5),1,())
 |false=>match A8 NI many (0,a,([]:List U5),a,0,())with|none=>none|some r=>match r with
 |.inl (e,c,d,_)=>some (c,d,0,())
 |.inr _=>none
def ABQ[Lk]:=lkk jz
theorem pD v:ABQ v=jz v:=A0 _
abbrev Ja:A1:=[AD,AI]
abbrev AT:Loc×Con:=(.tmp 8,.di)
abbrev AU:Loc×Con:=(.tmp 7,.di)
abbrev AG1:A1:=[AD,AI,AU,AT]
abbrev AW:Loc×Con:=(.tmp 4,.di)
abbrev EN:BH:=[(.ret,[AW]),(.exit 0,[])]
def LI[Lk]:(List Int×Int×Int×Int×Unit)->Option ((List Int×Int×Int×Int×Unit)⊕U9⊕(Unit)⊕Unit):=fun(b,c,d,a,_)=>
 match(ilt a d)with
 |true=>match idx b a with|none=>none|some e=>match(ieq c e)with
  |true=>some (.inr (.inl (a,())))
  |false=>some (.inl (b,c,d,(w64 (a+1)),()))
 |false=>some (.inr (.inr (.inl ())))
def bG[Lk]:Uf->Option (U9):=fun(a,b,_)=>
 match A8 LI many (a,b,(A2 a),0,())with|none=>none|some r=>match r with
 |.inl (c,_)=>some (c,())
 |.inr r=>match r with
 |.inl _=>some ((-1:Int),())
 |.inr _=>none
def UX[Lk]:=lkk bG
theorem iD v:UX v=bG v:=A0 _
def OF[Lk]:Uf->Option (Ua):=fun(a,b,_)=>
 match UX (a,b,())with|none=>none|some (c,_)=>some ((ile 0 c),())
def HF[Lk]:=lkk OF
theorem TA v:HF v=OF v:=A0 _
abbrev QY:A1:=[AD]
abbrev AX:Loc×Con:=(.tmp 3,.di)
abbrev ACG:A1:=[AD,AX,AW]
abbrev lL:BH:=[(.exit 0,[AX])]
def SA[Lk]:Uh->Option (Uh⊕U9⊕Unit):=fun(a,c,b,_)=>
 match(ilt b (A2 a))with
 |true=>match idx a b with|none=>none|some d=>some (.inl (a,(Cp c d),(w64 (b+1)),()))
 |false=>some (.inr (.inl (c,())))
def yP[Lk]:Ue->Option (U9):=fun(a,_)=>
 match(ilt (A2 a) 1)with
 |true=>none
 |false=>match idx a 0 with|none=>none|some b=>match A8 SA many (a,b,1,())with|none=>none|some r=>match r with
 |.inl (c,_)=>some (c,())
 |.inr _=>none
def AMH[Lk]:=lkk yP
theorem ACH v:AMH v=yP v:=A0 _
abbrev ARn:A1:=[(.tmp 0,.nil U0),AI]
abbrev AY:Loc×Con:=(.tmp 0,.own 3 U0)
abbrev EW:A1:=[AY]
def mN[Lk]:U9->Option (Ue):=fun(a,_)=>
 match(ilt a 0)with
 |true=>none
 |false=>match(ilt 0 (w64 (a-(w64 (0-0)))))with
 |true=>match Ci ([]:List Unit) 0 0 with|none=>none|some _u0=>match(Ca (w64 (a-(w64 (0-0)))))with
  |true=>match Ci (Dm (A4 (w64 (a-(w64 ((0:Int)-(0:Int)))))) (0:Int)) (0:Int) (0:Int)with|none=>none|some b=>some ((C5 (A4 (A2 b)) (Dm (A4 (w64 (a-(w64 ((0:Int)-(0:Int)))))) (0:Int))),())
  |false=>none
 |false=>some (([]:List (Int)),())
def ACa[Lk]:=lkk mN
theorem sH v:ACa v=mN v:=A0 _
abbrev AZ:Loc×Con:=(.tmp 0,.dat Ud)
abbrev AIM:A1:=[AZ]
abbrev Aa:Loc×Con:=(.tmp 6,.own 3 U0)
abbrev Ab:Loc×Con:=(.tmp 27,.di)
abbrev Ac:Loc×Con:=(.tmp 26,.di)
abbrev AAV:A1:=[Aa,(.tmp 25,.dat Ud),Ac,Ab]
abbrev AAT:BH:=[(.exit 2,[Aa])]
def Jq[Lk]:(List Int×List U5×Int×Int×Unit)->Option ((List Int×List U5×Int×Int×Unit)⊕Ue⊕Unit):=fun(a,c,d,b,_)=>
 match(ilt b d)with
 |true=>match idx c b with|none=>none|some e=>match(fits ((A2 a)+(A2 e)))with
  |true=>some (.inl ((BV a e),c,d,(w64 (b+1)),()))
  |false=>none
 |false=>some (.inr (.inl (a,())))
abbrev Ad:Loc×Con:=(.tmp 10,.di)
abbrev Ae:Loc×Con:=(.tmp 11,.di)
abbrev AAW:A1:=[AZ,AX,(.tmp 9,.dat Ud),Ad,Ae]
abbrev AAU:BH:=[(.exit 0,[AZ,AX])]
def Jr[Lk]:(List U5×Int×List U5×Int×Int×Unit)->Option ((List U5×Int×List U5×Int×Int×Unit)⊕(List U5×Int×Unit)⊕Unit):=fun(c,a,d,e,b,_)=>
 match(ilt b e)with
 |true=>match idx d b with|none=>none|some f=>match(ilt (w64 (a+(A2 f))) 0)with
  |true=>none
  |false=>some (.inl (c,(w64 (a+(A2 f))),d,e,(w64 (b+1)),()))
 |false=>some (.inr (.inl (c,a,())))
def VT[Lk]:(List U5×Unit)->Option (Ue):=fun(a,_)=>
 match A8 Jr many (a,0,a,(A2 a),0,())with|none=>none|some r=>match r with
 |.inl (b,c,_)=>match ACa (c,())with|none=>none|some (d,_)=>match A8 Jq many (d,b,(A2 b),0,())with|none=>none|some r=>match r with
  |.inl (e,_)=>some (e,())
  |.inr _=>none
 |.inr _=>none
def Mm[Lk]:=lkk VT
theorem cg v:Mm v=VT v:=A0 _
abbrev Nx:A1:=[AD,(.tmp 1,.clo 207 [])]
abbrev XP:A1:=[AD,(.tmp 1,.clo 207 []),AU,AT]
def EH[Lk]:Uh->Option (Uh⊕U9⊕(Unit)⊕Unit):=fun(b,c,a,_)=>
 match(ilt a c)with
 |true=>match idx b a with|none=>none|some d=>match(ilt d 0)with
  |true=>some (.inr (.inl (a,())))
  |false=>match(ilt 10000 d)with
  |true=>some (.inr (.inl (a,())))
  |false=>some (.inl (b,c,(w64 (a+1)),()))
 |false=>some (.inr (.inr (.inl ())))
def Jd[Lk]:Ue->Option (U9):=fun(a,_)=>
 match A8 EH many (a,(A2 a),0,())with|none=>none|some r=>match r with
 |.inl (b,_)=>some (b,())
 |.inr r=>match r with
 |.inl _=>some ((-1:Int),())
 |.inr _=>none
def MO[Lk]:=lkk Jd
theorem Mz v:MO v=Jd v:=A0 _
abbrev Af:Loc×Con:=(.tmp 3,.map U0 U0)
abbrev Ag:Loc×Con:=(.tmp 7,.dat U6)
abbrev Ah:Loc×Con:=(.tmp 9,.di)
abbrev AQt:A1:=[AD,Af,Ag,AT,Ah]
abbrev AQs:BH:=[(.exit 0,[AD,Af])]
def R7[Lk]:(List Int×List Uu×List Int×Int×Int×Unit)->Option ((List Int×List Uu×List Int×Int×Int×Unit)⊕(List Int×List Uu×Unit)⊕Unit):=fun(c,a,d,e,b,_)=>
 match(ilt b e)with
 |true=>match idx d b with|none=>none|some f=>some (.inl (c,(BG a f (w64 (((A_ a f).getD 0)+1))),d,e,(w64 (b+1)),()))
 |false=>some (.inr (.inl (c,a,())))
def yJ[Lk]:Ue->Option (Ua):=fun(a,_)=>
 match A8 R7 many (a,([]:List Uu),a,(A2 a),0,())with|none=>none|some r=>match r with
 |.inl (b,c,_)=>some ((ieq (A2 c) (A2 b)),())
 |.inr _=>none
def once[Lk]:=lkk yJ
theorem ACA v:once v=yJ v:=A0 _
def Yq[Lk]:Uf->Option (Ue):=fun(a,b,_)=>
 match Ci a b (A2 a)with|none=>none|some c=>match Ci a 0 b with|none=>none|some d=>match Mm (([c,d]:List U5),())with|none=>none|some (e,_)=>some (e,())
def Yr[Lk]:=lkk Yq
theorem fL v:Yr v=Yq v:=A0 _
abbrev UZ:A1:=[AZ,(.cap 1 0,.box 1),AN,(.tmp 1,.clo 230 [(0,0)])]
abbrev Ai:Loc×Con:=(.obj 0,.box 1)
abbrev UY:A1:=[Ai,AN,AB]
abbrev Sb:A1:=[Ai,AN,AZ,(.tmp 1,.clo 230 [(0,0)]),AU,AT]
abbrev Sa:BH:=[(.ret,[Ai,AN,AW]),(.exit 0,[Ai,AN])]
def Dd[Lk]:(Int×List U5×Int×Int×Unit)->Option ((Int×List U5×Int×Int×Unit)⊕U4⊕U9⊕Unit):=fun(a,c,d,b,_)=>
 match(ilt b d)with
 |true=>match idx c b with|none=>none|some e=>match HF (e,a,())with|none=>none|some (f,_)=>match f with
  |true=>some (.inr (.inl (a,b,())))
  |false=>some (.inl (a,c,d,(w64 (b+1)),()))
 |false=>some (.inr (.inr (.inl (a,()))))
def G'[Lk]:(List U5×Int×Unit)->Option (U4):=fun(a,b,_)=>
 match A8 Dd many (b,a,(A2 a),0,())with|none=>none|some r=>match r with
 |.inl (c,d,_)=>some (c,d,())
 |.inr r=>match r with
 |.inl (e,_)=>some (e,(-1:Int),())
 |.inr _=>none
def Jb[Lk]:=lkk G'
theorem KM v:Jb v=G' v:=A0 _
abbrev Aj:Loc×Con:=(.tmp 0,.dat Vk)
abbrev F_:A1:=[Aj,AI]
def Yy[Lk]:(Un×Int×Unit)->Option (U9):=fun(a,b,_)=>
 match Jb (a.2.1,b,())with|none=>none|some (d,c,_)=>some (c,())
def Tf[Lk]:=lkk Yy
theorem fR v:Tf v=Yy v:=A0 _
abbrev ANJ:A1:=[AB,AE]
abbrev Ak:Loc×Con:=(.tmp 5,.box 3)
abbrev ARu:A1:=[AB,Ak,(.cell 0 0,.own 3 U0),(.cell 0 1,.map U0 U0),(.cell 0 2,.map U0 U0),(.tmp 30,.dat U6),(.tmp 31,.di),(.tmp 32,.di)]
abbrev ARt:BH:=[(.ret,[AH]),(.exit 0,[Ak,(.cell 0 0,.own 3 U0),(.cell 0 1,.map U0 U0),(.cell 0 2,.map U0 U0)])]
def O9[Lk]:(Int×List Int×List Uu×List Uu×List Int×Int×Int×Unit)->Option ((Int×List Int×List Uu×List Uu×List Int×Int×Int×Unit)⊕Ua⊕(List Int×List Uu×List Uu×Unit)⊕Unit):=fun(g,a,c,d,h,i,f,_)=>
 match(ilt f i)with
 |true=>match idx h f with|none=>none|some l=>match jr (g,l,())with|none=>none|some (e,b,j,m,_)=>match(!m)with
  |true=>some (.inr (.inl (false,())))
  |false=>match j with
  |true=>match idx a (w64 ((A2 a)-1))with|none=>none|some n=>match(!(ieq (A9 a (A4 (w64 ((A2 a)-1))) 0) e))with
   |true=>some (.inr (.inl (false,())))
   |false=>match(ilt 0 (w64 ((A2 a)-1)))with
   |true=>match idx a (w64 ((w64 ((A2 a)-1))-1))with|none=>none|some o=>match(ieq (A9 a (A4 (w64 ((w64 ((A2 a)-1))-1))) 0) b)with
    |true=>match Ci a 0 (w64 ((A2 a)-1))with|none=>none|some k=>match(!j)with
     |true=>match idx (IF 0 (A4 (A2 k)) a) (w64 ((((A4 (A2 k)):Nat):Int)-1))with|none=>none|some p=>match(!(ieq (A9 a (0+(A4 (w64 ((((A4 (A2 k)):Nat):Int)-1)))) 0) e))with
      |true=>some (.inr (.inl (false,())))
      |false=>match(!j)with
      |true=>some (.inl (g,(C5 (A4 (A2 k)) a),c,(BG d e (w64 (((A_ d e).getD 0)+1))),h,i,(w64 (f+1)),()))
      |false=>some (.inl (g,(C5 (A4 (A2 k)) a),c,d,h,i,(w64 (f+1)),()))
     |false=>match(!j)with
     |true=>some (.inl (g,(C5 (A4 (A2 k)) a),c,(BG d e (w64 (((A_ d e).getD 0)+1))),h,i,(w64 (f+1)),()))
     |false=>some (.inl (g,(C5 (A4 (A2 k)) a),c,d,h,i,(w64 (f+1)),()))
    |false=>match(ilt 0 ((A_ c b).getD 0))with
    |true=>some (.inr (.inl (false,())))
    |false=>match(fits ((A2 a)+(A2 ([b]:List (Int)))))with
    |true=>match(!j)with
     |true=>match idx (BV a ([b]:List (Int))) (w64 ((A2 (BV a ([b]:List (Int))))-1))with|none=>none|some q=>match(!(ieq (A9 (BV a ([b]:List (Int))) (A4 (w64 ((A2 (BV a ([b]:List (Int))))-1))) 0) e))with
      |true=>some (.inr (.inl (false,())))
      |false=>match(!j)with
      |true=>some (.inl (g,(BV a ([b]:List (Int))),(BG c b (w64 (((A_ c b).getD 0)+1))),(BG d e (w64 (((A_ d e).getD 0)+1))),h,i,(w64 (f+1)),()))
      |false=>some (.inl (g,(BV a ([b]:List (Int))),(BG c b (w64 (((A_ c b).getD 0)+1))),d,h,i,(w64 (f+1)),()))
     |false=>match(!j)with
     |true=>some (.inl (g,(BV a ([b]:List (Int))),(BG c b (w64 (((A_ c b).getD 0)+1))),(BG d e (w64 (((A_ d e).getD 0)+1))),h,i,(w64 (f+1)),()))
     |false=>some (.inl (g,(BV a ([b]:List (Int))),(BG c b (w64 (((A_ c b).getD 0)+1))),d,h,i,(w64 (f+1)),()))
    |false=>none
   |false=>match(ilt 0 ((A_ c b).getD 0))with
   |true=>some (.inr (.inl (false,())))
   |false=>match(fits ((A2 a)+(A2 ([b]:List (Int)))))with
   |true=>match(!j)with
    |true=>match idx (BV a ([b]:List (Int))) (w64 ((A2 (BV a ([b]:List (Int))))-1))with|none=>none|some r=>match(!(ieq (A9 (BV a ([b]:List (Int))) (A4 (w64 ((A2 (BV a ([b]:List (Int))))-1))) 0) e))with
     |true=>some (.inr (.inl (false,())))
     |false=>match(!j)with
     |true=>some (.inl (g,(BV a ([b]:List (Int))),(BG c b (w64 (((A_ c b).getD 0)+1))),(BG d e (w64 (((A_ d e).getD 0)+1))),h,i,(w64 (f+1)),()))
     |false=>some (.inl (g,(BV a ([b]:List (Int))),(BG c b (w64 (((A_ c b).getD 0)+1))),d,h,i,(w64 (f+1)),()))
    |false=>match(!j)with
    |true=>some (.inl (g,(BV a ([b]:List (Int))),(BG c b (w64 (((A_ c b).getD 0)+1))),(BG d e (w64 (((A_ d e).getD 0)+1))),h,i,(w64 (f+1)),()))
    |false=>some (.inl (g,(BV a ([b]:List (Int))),(BG c b (w64 (((A_ c b).getD 0)+1))),d,h,i,(w64 (f+1)),()))
   |false=>none
  |false=>match(!j)with
  |true=>match idx a (w64 ((A2 a)-1))with|none=>none|some s=>match(!(ieq (A9 a (A4 (w64 ((A2 a)-1))) 0) e))with
   |true=>some (.inr (.inl (false,())))
   |false=>match(!j)with
   |true=>some (.inl (g,a,c,(BG d e (w64 (((A_ d e).getD 0)+1))),h,i,(w64 (f+1)),()))
   |false=>some (.inl (g,a,c,d,h,i,(w64 (f+1)),()))
  |false=>match(!j)with
  |true=>some (.inl (g,a,c,(BG d e (w64 (((A_ d e).getD 0)+1))),h,i,(w64 (f+1)),()))
  |false=>some (.inl (g,a,c,d,h,i,(w64 (f+1)),()))
 |false=>some (.inr (.inr (.inl (a,c,d,()))))
def zN[Lk]:(Int×List Int×Unit)->Option (Ua):=fun(b,a,_)=>
 match idx a 0 with|none=>none|some c=>match tin (b,c,())with|none=>none|some (d,_)=>match(!d)with
 |true=>some (false,())
 |false=>match idx a 0 with|none=>none|some e=>match idx a 0 with|none=>none|some f=>match A8 O9 many (b,([e]:List (Int)),(BG ([]:List Uu) f 1),([]:List Uu),a,(A2 a),0,())with|none=>none|some r=>match r with
 |.inl (g,_)=>some (g,())
 |.inr r=>match r with
 |.inl (h,i,j,_)=>match(ieq (A2 h) 1)with
  |true=>some ((ieq (A2 j) (A2 i)),())
  |false=>some (false,())
 |.inr _=>none
def goes[Lk]:=lkk zN
theorem ACc v:goes v=zN v:=A0 _
def L_[Lk]:U9->Option (Ua):=fun(a,_)=>
 some ((!(ieq a a)),())
def AF0[Lk]:=lkk L_
theorem KG v:AF0 v=L_ v:=A0 _
def HH[Lk]:U4->Option (U9):=fun(a,b,_)=>
 match AF0 (a,())with|none=>none|some (d,_)=>match AF0 (b,())with|none=>none|some (c,_)=>match d with
 |true=>match c with
  |true=>some (0,())
  |false=>some ((-1:Int),())
 |false=>match c with
 |true=>some (1,())
 |false=>match(ilt a b)with
 |true=>some ((-1:Int),())
 |false=>match(ilt b a)with
 |true=>some (1,())
 |false=>some (0,())
def EJ[Lk]:=lkk HH
theorem H3 v:EJ v=HH v:=A0 _
def ja[Lk]:V2->Option (U9):=fun(a,b,_)=>
 match idx a 0 with|none=>none|some c=>match idx b 0 with|none=>none|some d=>match EJ (c,d,())with|none=>none|some (e,_)=>some (e,())
def C1[Lk]:=lkk ja
theorem oS v:C1 v=ja v:=A0 _
def IC:List Int:=[0,1,2,2,3,3,3,3,4,4,4,4,4,4,4,4,5,5,5,5,5,5,5,5,5,5,5,5,5,5,5,5,6,6,6,6,6,6,6,6,6,6,6,6,6,6,6,6,6,6,6,6,6,6,6,6,6,6,6,6,6,6,6,6,7,7,7,7,7,7,7,7,7,7,7,7,7,7,7,7,7,7,7,7,7,7,7,7,7,7,7,7,7,7,7,7,7,7,7,7,7,7,7,7,7,7,7,7,7,7,7,7,7,7,7,7,7,7,7,7,7,7,7,7,7,7,7,7,8,8,8,8,8,8,8,8,8,8,8,8,8,8,8,8,8,8,8,8,8,8,8,8,8,8,8,8,8,8,8,8,8,8,8,8,8,8,8,8,8,8,8,8,8,8,8,8,8,8,8,8,8,8,8,8,8,8,8,8,8,8,8,8,8,8,8,8,8,8,8,8,8,8,8,8,8,8,8,8,8,8,8,8,8,8,8,8,8,8,8,8,8,8,8,8,8,8,8,8,8,8,8,8,8,8,8,8,8,8,8,8,8,8,8,8,8,8,8,8,8,8,8,8,8,8,8,8]
abbrev lS:A1:=[(.tmp 0,.dat (.int .u64))]
def lT[Lk]:U9->Option (U9):=fun(a,_)=>
 match(ile 4294967296 a)with
 |true=>match shr? .u64 a 32 with|none=>none|some b=>match(ile 65536 b)with
  |true=>match shr? .u64 b 16 with|none=>none|some c=>match(ile 256 c)with
   |true=>match shr? .u64 c 8 with|none=>none|some e=>match idx IC (IntKind.wrap .u8 e)with|none=>none|some f=>some ((w64 ((w64 ((w64 (32+16))+8))+(w64 f))),())
   |false=>match idx IC (IntKind.wrap .u8 c)with|none=>none|some g=>some ((w64 ((w64 (32+16))+(w64 g))),())
  |false=>match(ile 256 b)with
  |true=>match shr? .u64 b 8 with|none=>none|some h=>match idx IC (IntKind.wrap .u8 h)with|none=>none|some i=>some ((w64 ((w64 (32+8))+(w64 i))),())
  |false=>match idx IC (IntKind.wrap .u8 b)with|none=>none|some j=>some ((w64 (32+(w64 j))),())
 |false=>match(ile 65536 a)with
 |true=>match shr? .u64 a 16 with|none=>none|some d=>match(ile 256 d)with
  |true=>match shr? .u64 d 8 with|none=>none|some k=>match idx IC (IntKind.wrap .u8 k)with|none=>none|some l=>some ((w64 ((w64 ((w64 (0+16))+8))+(w64 l))),())
  |false=>match idx IC (IntKind.wrap .u8 d)with|none=>none|some m=>some ((w64 ((w64 (0+16))+(w64 m))),())
 |false=>match(ile 256 a)with
 |true=>match shr? .u64 a 8 with|none=>none|some n=>match idx IC (IntKind.wrap .u8 n)with|none=>none|some o=>some ((w64 ((w64 (0+8))+(w64 o))),())
 |false=>match idx IC (IntKind.wrap .u8 a)with|none=>none|some p=>some ((w64 (0+(w64 p))),())
def ACU[Lk]:=lkk lT
theorem ri v:ACU v=lT v:=A0 _
def Vq[Lk]:U9->Option (U9):=fun(a,_)=>
 match ACU (a,())with|none=>none|some (b,_)=>some (b,())
def bitsLen[Lk]:=lkk Vq
theorem c8 v:bitsLen v=Vq v:=A0 _
abbrev ADD:A1:=[(.tmp 0,.box 1),(.cell 0 0,.dat (.int .u64))]
abbrev ADC:A1:=[Ai,(.cell 0 0,.dat (.int .u64)),(.tmp 0,.dat (.int .u64))]
def TW[Lk]:U9->Option (U4):=fun(a,_)=>
 match shl? .u64 a 13 with|none=>none|some b=>match shr? .u64 (IntKind.wrap .u64 ((BitVec.ofInt (IntKind.bits .u64) a ^^^ BitVec.ofInt (IntKind.bits .u64) b).toNat)) 7 with|none=>none|some c=>match shl? .u64 (IntKind.wrap .u64 ((BitVec.ofInt (IntKind.bits .u64) (IntKind.wrap .u64 ((BitVec.ofInt (IntKind.bits .u64) a ^^^ BitVec.ofInt (IntKind.bits .u64) b).toNat)) ^^^ BitVec.ofInt (IntKind.bits .u64) c).toNat)) 17 with|none=>none|some d=>some ((IntKind.wrap .u64 ((BitVec.ofInt (IntKind.bits .u64) (IntKind.wrap .u64 ((BitVec.ofInt (IntKind.bits .u64) (IntKind.wrap .u64 ((BitVec.ofInt (IntKind.bits .u64) a ^^^ BitVec.ofInt (IntKind.bits .u64) b).toNat)) ^^^ BitVec.ofInt (IntKind.bits .u64) c).toNat)) ^^^ BitVec.ofInt (IntKind.bits .u64) d).toNat)),(IntKind.wrap .u64 ((BitVec.ofInt (IntKind.bits .u64) (IntKind.wrap .u64 ((BitVec.ofInt (IntKind.bits .u64) (IntKind.wrap .u64 ((BitVec.ofInt (IntKind.bits .u64) a ^^^ BitVec.ofInt (IntKind.bits .u64) b).toNat)) ^^^ BitVec.ofInt (IntKind.bits .u64) c).toNat)) ^^^ BitVec.ofInt (IntKind.bits .u64) d).toNat)),())
def xorNext[Lk]:=lkk TW
theorem Yb v:xorNext v=TW v:=A0 _
def UG[Lk]:U9->Option (U9):=fun(a,_)=>
 match bitsLen ((IntKind.wrap .u64 a),())with|none=>none|some (b,_)=>match shl? .u64 1 b with|none=>none|some c=>some (c,())
def YD[Lk]:=lkk UG
theorem aN v:YD v=UG v:=A0 _
abbrev tLt[Lk](y:Int):Bool:=ilt y (0:Int)
abbrev tId[Lk](y:Bool):Bool:=y
def YK[Lk]{α β:Type}(z:α)(c:α×α×Unit->Option (β×Unit))(t:β->Bool):(List α×Int×Int×Int×Int×Unit)->Option ((List α×Int×Int×Int×Int×Unit)⊕(List α×Int×Int×Int×Unit)⊕Unit):=fun(b,d,e,f,a,_)=>
 match(ilt d a)with
 |true=>match idx b a with|none=>none|some h=>match idx b (w64 (a-1))with|none=>none|some i=>match c ((A9 b (A4 a) z),(A9 b (A4 (w64 (a-1))) z),())with|none=>none|some (g,_)=>match(t g)with
  |true=>match idx b (w64 (a-1))with|none=>none|some j=>match idx b a with|none=>none|some k=>match idx b a with|none=>none|some l=>match idx (Bc b (A4 a) (A9 b (A4 (w64 (a-1))) z)) (w64 (a-1))with|none=>none|some m=>some (.inl ((Bc (Bc b (A4 a) (A9 b (A4 (w64 (a-1))) z)) (A4 (w64 (a-1))) (A9 b (A4 a) z)),d,e,f,(w64 (a-1)),()))
  |false=>some (.inr (.inl (b,d,e,f,())))
 |false=>some (.inr (.inl (b,d,e,f,())))
def YL[Lk]{α β:Type}(z:α)(c:α×α×Unit->Option (β×Unit))(t:β->Bool):(List α×Int×Int×Int×Unit)->Option ((List α×Int×Int×Int×Unit)⊕(List α×Unit)⊕Unit):=fun(b,e,d,a,_)=>
 match(ilt a d)with
 |true=>match A8 (YK z c t) many (b,e,d,a,a,())with|none=>none|some r=>match r with
  |.inl (f,g,h,i,_)=>some (.inl (f,g,h,(w64 (i+1)),()))
  |.inr _=>none
 |false=>some (.inr (.inl (b,())))
def Qj[Lk]{α β:Type}(z:α)(c:α×α×Unit->Option (β×Unit))(t:β->Bool):(List α×Int×Int×Unit)->Option ((List α×Unit)):=fun(b,a,d,_)=>
 match A8 (YL z c t) many (b,a,d,(w64 (a+1)),())with|none=>none|some r=>match r with
 |.inl (e,_)=>some (e,())
 |.inr _=>none
def zH[Lk]{α β:Type}(z:α)(c:α×α×Unit->Option (β×Unit))(t:β->Bool)(v:(List α×Int×Int×Unit)):Option ((List α×Unit)):=Lk.f ((Qj z c t) v)
theorem ARV{α β:Type}(z:α)(c:α×α×Unit->Option (β×Unit))(t:β->Bool)(v:(List α×Int×Int×Unit)):(zH z c t) v=(Qj z c t) v:=A0 _
def Rm[Lk]{α β:Type}(z:α)(c:α×α×Unit->Option (β×Unit))(t:β->Bool):(List α×Int×Int×Int×Unit)->Option ((List α×Int×Int×Int×Unit)⊕(List α×Unit)⊕(List α×Unit)⊕Unit):=fun(d,e,b,a,_)=>
 match(ile e (w64 ((w64 (2*a))+1)))with
 |true=>some (.inr (.inl (d,())))
 |false=>match(ilt (w64 ((w64 ((w64 (2*a))+1))+1)) e)with
 |true=>match idx d (w64 (b+(w64 ((w64 (2*a))+1))))with|none=>none|some j=>match idx d (w64 ((w64 (b+(w64 ((w64 (2*a))+1))))+1))with|none=>none|some k=>match c ((A9 d (A4 (w64 (b+(w64 ((w64 (2*a))+1))))) z),(A9 d (A4 (w64 ((w64 (b+(w64 ((w64 (2*a))+1))))+1))) z),())with|none=>none|some (f,_)=>match(t f)with
  |true=>match idx d (w64 (b+a))with|none=>none|some l=>match idx d (w64 (b+(w64 ((w64 ((w64 (2*a))+1))+1))))with|none=>none|some m=>match c ((A9 d (A4 (w64 (b+a))) z),(A9 d (A4 (w64 (b+(w64 ((w64 ((w64 (2*a))+1))+1))))) z),())with|none=>none|some (g,_)=>match(!(t g))with
   |true=>some (.inr (.inr (.inl (d,()))))
   |false=>match idx d (w64 (b+(w64 ((w64 ((w64 (2*a))+1))+1))))with|none=>none|some n=>match idx d (w64 (b+a))with|none=>none|some o=>match idx d (w64 (b+a))with|none=>none|some p=>match idx (Bc d (A4 (w64 (b+a))) (A9 d (A4 (w64 (b+(w64 ((w64 ((w64 (2*a))+1))+1))))) z)) (w64 (b+(w64 ((w64 ((w64 (2*a))+1))+1))))with|none=>none|some q=>some (.inl ((Bc (Bc d (A4 (w64 (b+a))) (A9 d (A4 (w64 (b+(w64 ((w64 ((w64 (2*a))+1))+1))))) z)) (A4 (w64 (b+(w64 ((w64 ((w64 (2*a))+1))+1))))) (A9 d (A4 (w64 (b+a))) z)),e,b,(w64 ((w64 ((w64 (2*a))+1))+1)),()))
  |false=>match idx d (w64 (b+a))with|none=>none|some r=>match idx d (w64 (b+(w64 ((w64 (2*a))+1))))with|none=>none|some s=>match c ((A9 d (A4 (w64 (b+a))) z),(A9 d (A4 (w64 (b+(w64 ((w64 (2*a))+1))))) z),())with|none=>none|some (h,_)=>match(!(t h))with
  |true=>some (.inr (.inr (.inl (d,()))))
  |false=>match idx d (w64 (b+(w64 ((w64 (2*a))+1))))with|none=>none|some u=>match idx d (w64 (b+a))with|none=>none|some v=>match idx d (w64 (b+a))with|none=>none|some w=>match idx (Bc d (A4 (w64 (b+a))) (A9 d (A4 (w64 (b+(w64 ((w64 (2*a))+1))))) z)) (w64 (b+(w64 ((w64 (2*a))+1))))with|none=>none|some x=>some (.inl ((Bc (Bc d (A4 (w64 (b+a))) (A9 d (A4 (w64 (b+(w64 ((w64 (2*a))+1))))) z)) (A4 (w64 (b+(w64 ((w64 (2*a))+1))))) (A9 d (A4 (w64 (b+a))) z)),e,b,(w64 ((w64 (2*a))+1)),()))
 |false=>match idx d (w64 (b+a))with|none=>none|some y=>match idx d (w64 (b+(w64 ((w64 (2*a))+1))))with|none=>none|some A=>match c ((A9 d (A4 (w64 (b+a))) z),(A9 d (A4 (w64 (b+(w64 ((w64 (2*a))+1))))) z),())with|none=>none|some (i,_)=>match(!(t i))with
 |true=>some (.inr (.inr (.inl (d,()))))
 |false=>match idx d (w64 (b+(w64 ((w64 (2*a))+1))))with|none=>none|some B=>match idx d (w64 (b+a))with|none=>none|some C=>match idx d (w64 (b+a))with|none=>none|some D=>match idx (Bc d (A4 (w64 (b+a))) (A9 d (A4 (w64 (b+(w64 ((w64 (2*a))+1))))) z)) (w64 (b+(w64 ((w64 (2*a))+1))))with|none=>none|some E=>some (.inl ((Bc (Bc d (A4 (w64 (b+a))) (A9 d (A4 (w64 (b+(w64 ((w64 (2*a))+1))))) z)) (A4 (w64 (b+(w64 ((w64 (2*a))+1))))) (A9 d (A4 (w64 (b+a))) z)),e,b,(w64 ((w64 (2*a))+1)),()))
def Lz[Lk]{α β:Type}(z:α)(c:α×α×Unit->Option (β×Unit))(t:β->Bool):(List α×Int×Int×Int×Unit)->Option ((List α×Unit)):=fun(a,b,d,e,_)=>
 match A8 (Rm z c t) many (a,d,e,b,())with|none=>none|some r=>match r with
 |.inl (f,_)=>some (f,())
 |.inr r=>match r with
 |.inl (g,_)=>some (g,())
 |.inr _=>none
def WL[Lk]{α β:Type}(z:α)(c:α×α×Unit->Option (β×Unit))(t:β->Bool)(v:(List α×Int×Int×Int×Unit)):Option ((List α×Unit)):=Lk.f ((Lz z c t) v)
theorem AKC{α β:Type}(z:α)(c:α×α×Unit->Option (β×Unit))(t:β->Bool)(v:(List α×Int×Int×Int×Unit)):(WL z c t) v=(Lz z c t) v:=A0 _
def Sk[Lk]{α β:Type}(z:α)(c:α×α×Unit->Option (β×Unit))(t:β->Bool):(List α×Int×Int×Int×Unit)->Option ((List α×Int×Int×Int×Unit)⊕(List α×Unit)⊕Unit):=fun(b,a,e,d,_)=>
 match(ile 0 d)with
 |true=>match idx b (w64 (a+d))with|none=>none|some g=>match idx b a with|none=>none|some h=>match idx b a with|none=>none|some i=>match idx (Bc b (A4 a) (A9 b (A4 (w64 (a+d))) z)) (w64 (a+d))with|none=>none|some j=>match(WL z c t) ((Bc (Bc b (A4 a) (A9 b (A4 (w64 (a+d))) z)) (A4 (w64 (a+d))) (A9 b (A4 a) z)),e,d,a,())with|none=>none|some (f,_)=>some (.inl (f,a,e,(w64 (d-1)),()))
 |false=>some (.inr (.inl (b,())))
def Sl[Lk]{α β:Type}(z:α)(c:α×α×Unit->Option (β×Unit))(t:β->Bool):(List α×Int×Int×Int×Int×Unit)->Option ((List α×Int×Int×Int×Int×Unit)⊕(List α×Int×Int×Int×Unit)⊕Unit):=fun(e,a,f,b,d,_)=>
 match(ile 0 d)with
 |true=>match(WL z c t) (e,d,b,a,())with|none=>none|some (g,_)=>some (.inl (g,a,f,b,(w64 (d-1)),()))
 |false=>some (.inr (.inl (e,a,f,b,())))
def MW[Lk]{α β:Type}(z:α)(c:α×α×Unit->Option (β×Unit))(t:β->Bool):(List α×Int×Int×Unit)->Option ((List α×Unit)):=fun(d,a,b,_)=>
 match quo? .i64 (w64 ((w64 (b-a))-1)) 2 with|none=>none|some e=>match A8 (Sl z c t) many (d,a,0,(w64 (b-a)),e,())with|none=>none|some r=>match r with
 |.inl (f,g,h,i,_)=>match A8 (Sk z c t) many (f,g,h,(w64 (i-1)),())with|none=>none|some r=>match r with
  |.inl (j,_)=>some (j,())
  |.inr _=>none
 |.inr _=>none
def bX[Lk]{α β:Type}(z:α)(c:α×α×Unit->Option (β×Unit))(t:β->Bool)(v:(List α×Int×Int×Unit)):Option ((List α×Unit)):=Lk.f ((MW z c t) v)
theorem ANC{α β:Type}(z:α)(c:α×α×Unit->Option (β×Unit))(t:β->Bool)(v:(List α×Int×Int×Unit)):(bX z c t) v=(MW z c t) v:=A0 _
def La[Lk]{α β:Type}(z:α)(c:α×α×Unit->Option (β×Unit))(t:β->Bool):(List α×Int×Int×Int×Int×Int×Unit)->Option ((List α×Int×Int×Int×Int×Int×Unit)⊕(List α×Unit)⊕Unit):=fun(a,b,g,i,d,e,_)=>
 match quo? .i64 g 4 with|none=>none|some j=>match(ile e (w64 ((w64 (b+(w64 (j*2))))+1)))with
 |true=>match xorNext (i,())with|none=>none|some (h,f,_)=>match(ile g (w64 (IntKind.wrap .u64 ((BitVec.ofInt (IntKind.bits .u64) f &&& BitVec.ofInt (IntKind.bits .u64) (IntKind.wrap .u64 (d-1))).toNat))))with
  |true=>match idx a (w64 (b+(w64 ((w64 (IntKind.wrap .u64 ((BitVec.ofInt (IntKind.bits .u64) f &&& BitVec.ofInt (IntKind.bits .u64) (IntKind.wrap .u64 (d-1))).toNat)))-g))))with|none=>none|some k=>match idx a e with|none=>none|some l=>match idx a e with|none=>none|some m=>match idx (Bc a (A4 e) (A9 a (A4 (w64 (b+(w64 ((w64 (IntKind.wrap .u64 ((BitVec.ofInt (IntKind.bits .u64) f &&& BitVec.ofInt (IntKind.bits .u64) (IntKind.wrap .u64 (d-1))).toNat)))-g))))) z)) (w64 (b+(w64 ((w64 (IntKind.wrap .u64 ((BitVec.ofInt (IntKind.bits .u64) f &&& BitVec.ofInt (IntKind.bits .u64) (IntKind.wrap .u64 (d-1))).toNat)))-g))))with|none=>none|some n=>some (.inl ((Bc (Bc a (A4 e) (A9 a (A4 (w64 (b+(w64 ((w64 (IntKind.wrap .u64 ((BitVec.ofInt (IntKind.bits .u64) f &&& BitVec.ofInt (IntKind.bits .u64) (IntKind.wrap .u64 (d-1))).toNat)))-g))))) z)) (A4 (w64 (b+(w64 ((w64 (IntKind.wrap .u64 ((BitVec.ofInt (IntKind.bits .u64) f &&& BitVec.ofInt (IntKind.bits .u64) (IntKind.wrap .u64 (d-1))).toNat)))-g))))) (A9 a (A4 e) z)),b,g,h,d,(w64 (e+1)),()))
  |false=>match idx a (w64 (b+(w64 (IntKind.wrap .u64 ((BitVec.ofInt (IntKind.bits .u64) f &&& BitVec.ofInt (IntKind.bits .u64) (IntKind.wrap .u64 (d-1))).toNat)))))with|none=>none|some o=>match idx a e with|none=>none|some p=>match idx a e with|none=>none|some q=>match idx (Bc a (A4 e) (A9 a (A4 (w64 (b+(w64 (IntKind.wrap .u64 ((BitVec.ofInt (IntKind.bits .u64) f &&& BitVec.ofInt (IntKind.bits .u64) (IntKind.wrap .u64 (d-1))).toNat)))))) z)) (w64 (b+(w64 (IntKind.wrap .u64 ((BitVec.ofInt (IntKind.bits .u64) f &&& BitVec.ofInt (IntKind.bits .u64) (IntKind.wrap .u64 (d-1))).toNat)))))with|none=>none|some r=>some (.inl ((Bc (Bc a (A4 e) (A9 a (A4 (w64 (b+(w64 (IntKind.wrap .u64 ((BitVec.ofInt (IntKind.bits .u64) f &&& BitVec.ofInt (IntKind.bits .u64) (IntKind.wrap .u64 (d-1))).toNat)))))) z)) (A4 (w64 (b+(w64 (IntKind.wrap .u64 ((BitVec.ofInt (IntKind.bits .u64) f &&& BitVec.ofInt (IntKind.bits .u64) (IntKind.wrap .u64 (d-1))).toNat)))))) (A9 a (A4 e) z)),b,g,h,d,(w64 (e+1)),()))
 |false=>some (.inr (.inl (a,())))
def Js[Lk]{α β:Type}(z:α)(c:α×α×Unit->Option (β×Unit))(t:β->Bool):(List α×Int×Int×Unit)->Option ((List α×Unit)):=fun(d,a,b,_)=>
 match(ile 8 (w64 (b-a)))with
 |true=>match YD ((w64 (b-a)),())with|none=>none|some (e,_)=>match quo? .i64 (w64 (b-a)) 4 with|none=>none|some f=>match A8 (La z c t) many (d,a,(w64 (b-a)),(IntKind.wrap .u64 (w64 (b-a))),e,(w64 ((w64 (a+(w64 (f*2))))-1)),())with|none=>none|some r=>match r with
  |.inl (g,_)=>some (g,())
  |.inr _=>none
 |false=>some (d,())
def Q_[Lk]{α β:Type}(z:α)(c:α×α×Unit->Option (β×Unit))(t:β->Bool)(v:(List α×Int×Int×Unit)):Option ((List α×Unit)):=Lk.f ((Js z c t) v)
theorem AIo{α β:Type}(z:α)(c:α×α×Unit->Option (β×Unit))(t:β->Bool)(v:(List α×Int×Int×Unit)):(Q_ z c t) v=(Js z c t) v:=A0 _
def G3[Lk]{α β:Type}(z:α)(c:α×α×Unit->Option (β×Unit))(t:β->Bool):(List α×Int×Int×Int×Unit)->Option ((List α×Int×Int×Int×Unit)):=fun(a,b,d,e,_)=>
 match idx a d with|none=>none|some g=>match idx a b with|none=>none|some h=>match c ((A9 a (A4 d) z),(A9 a (A4 b) z),())with|none=>none|some (f,_)=>match(t f)with
 |true=>some (a,(w64 (e+1)),d,b,())
 |false=>some (a,e,b,d,())
def IV[Lk]{α β:Type}(z:α)(c:α×α×Unit->Option (β×Unit))(t:β->Bool)(v:(List α×Int×Int×Int×Unit)):Option ((List α×Int×Int×Int×Unit)):=Lk.f ((G3 z c t) v)
theorem yH{α β:Type}(z:α)(c:α×α×Unit->Option (β×Unit))(t:β->Bool)(v:(List α×Int×Int×Int×Unit)):(IV z c t) v=(G3 z c t) v:=A0 _
def G6[Lk]{α β:Type}(z:α)(c:α×α×Unit->Option (β×Unit))(t:β->Bool):(List α×Int×Int×Int×Int×Unit)->Option ((List α×Int×Int×Unit)):=fun(a,b,d,e,f,_)=>
 match(IV z c t) (a,b,d,f,())with|none=>none|some (g,h,i,j,_)=>match(IV z c t) (g,j,e,h,())with|none=>none|some (k,l,m,q,_)=>match(IV z c t) (k,i,m,l,())with|none=>none|some (n,o,r,p,_)=>some (n,o,p,())
def IX[Lk]{α β:Type}(z:α)(c:α×α×Unit->Option (β×Unit))(t:β->Bool)(v:(List α×Int×Int×Int×Int×Unit)):Option ((List α×Int×Int×Unit)):=Lk.f ((G6 z c t) v)
theorem yX{α β:Type}(z:α)(c:α×α×Unit->Option (β×Unit))(t:β->Bool)(v:(List α×Int×Int×Int×Int×Unit)):(IX z c t) v=(G6 z c t) v:=A0 _
def G7[Lk]{α β:Type}(z:α)(c:α×α×Unit->Option (β×Unit))(t:β->Bool):(List α×Int×Int×Unit)->Option ((List α×Int×Int×Unit)):=fun(b,a,d,_)=>
 match(IX z c t) (b,(w64 (a-1)),a,(w64 (a+1)),d,())with|none=>none|some (e,f,g,_)=>some (e,f,g,())
def IY[Lk]{α β:Type}(z:α)(c:α×α×Unit->Option (β×Unit))(t:β->Bool)(v:(List α×Int×Int×Unit)):Option ((List α×Int×Int×Unit)):=Lk.f ((G7 z c t) v)
theorem ye{α β:Type}(z:α)(c:α×α×Unit->Option (β×Unit))(t:β->Bool)(v:(List α×Int×Int×Unit)):(IY z c t) v=(G7 z c t) v:=A0 _
def JL[Lk]{α β:Type}(z:α)(c:α×α×Unit->Option (β×Unit))(t:β->Bool):(List α×Int×Int×Unit)->Option ((List α×Int×Int×Unit)):=fun(b,a,d,_)=>
 match quo? .i64 (w64 (d-a)) 4 with|none=>none|some j=>match quo? .i64 (w64 (d-a)) 4 with|none=>none|some e=>match quo? .i64 (w64 (d-a)) 4 with|none=>none|some k=>match(ile 8 (w64 (d-a)))with
 |true=>match(ile 50 (w64 (d-a)))with
  |true=>match(IY z c t) (b,(w64 (a+(w64 (j*1)))),0,())with|none=>none|some (n,o,p,_)=>match(IY z c t) (n,(w64 (a+(w64 (e*2)))),o,())with|none=>none|some (q,r,s,_)=>match(IY z c t) (q,(w64 (a+(w64 (k*3)))),r,())with|none=>none|some (u,v,w,_)=>match(IX z c t) (u,p,s,w,v,())with|none=>none|some (f,l,g,_)=>match(ieq l 0)with
   |true=>some (f,g,1,())
   |false=>match(ieq l 12)with
   |true=>some (f,g,2,())
   |false=>some (f,g,0,())
  |false=>match(IX z c t) (b,(w64 (a+(w64 (j*1)))),(w64 (a+(w64 (e*2)))),(w64 (a+(w64 (k*3)))),0,())with|none=>none|some (h,m,i,_)=>match(ieq m 0)with
  |true=>some (h,i,1,())
  |false=>match(ieq m 12)with
  |true=>some (h,i,2,())
  |false=>some (h,i,0,())
 |false=>match(ieq 0 0)with
 |true=>some (b,(w64 (a+(w64 (e*2)))),1,())
 |false=>match(ieq 0 12)with
 |true=>some (b,(w64 (a+(w64 (e*2)))),2,())
 |false=>some (b,(w64 (a+(w64 (e*2)))),0,())
def QM[Lk]{α β:Type}(z:α)(c:α×α×Unit->Option (β×Unit))(t:β->Bool)(v:(List α×Int×Int×Unit)):Option ((List α×Int×Int×Unit)):=Lk.f ((JL z c t) v)
theorem AFA{α β:Type}(z:α)(c:α×α×Unit->Option (β×Unit))(t:β->Bool)(v:(List α×Int×Int×Unit)):(QM z c t) v=(JL z c t) v:=A0 _
def kT[Lk]{α β:Type}(z:α)(c:α×α×Unit->Option (β×Unit))(t:β->Bool):(List α×Int×Int×Unit)->Option ((List α×Int×Int×Unit)⊕(List α×Unit)⊕Unit):=fun(a,b,d,_)=>
 match(ilt b d)with
 |true=>match idx a d with|none=>none|some e=>match idx a b with|none=>none|some f=>match idx a b with|none=>none|some g=>match idx (Bc a (A4 b) (A9 a (A4 d) z)) d with|none=>none|some h=>some (.inl ((Bc (Bc a (A4 b) (A9 a (A4 d) z)) (A4 d) (A9 a (A4 b) z)),(w64 (b+1)),(w64 (d-1)),()))
 |false=>some (.inr (.inl (a,())))
def QH[Lk]{α β:Type}(z:α)(c:α×α×Unit->Option (β×Unit))(t:β->Bool):(List α×Int×Int×Unit)->Option ((List α×Unit)):=fun(a,b,d,_)=>
 match A8 (kT z c t) many (a,b,(w64 (d-1)),())with|none=>none|some r=>match r with
 |.inl (e,_)=>some (e,())
 |.inr _=>none
def wU[Lk]{α β:Type}(z:α)(c:α×α×Unit->Option (β×Unit))(t:β->Bool)(v:(List α×Int×Int×Unit)):Option ((List α×Unit)):=Lk.f ((QH z c t) v)
theorem AP8{α β:Type}(z:α)(c:α×α×Unit->Option (β×Unit))(t:β->Bool)(v:(List α×Int×Int×Unit)):(wU z c t) v=(QH z c t) v:=A0 _
def KE[Lk]{α β:Type}(z:α)(c:α×α×Unit->Option (β×Unit))(t:β->Bool):(List α×Int×Int×Int×Int×Int×Unit)->Option ((List α×Int×Int×Int×Int×Int×Unit)⊕(List α×Int×Int×Int×Int×Unit)⊕Unit):=fun(b,e,d,f,g,a,_)=>
 match(ilt a d)with
 |true=>match idx b a with|none=>none|some i=>match idx b (w64 (a-1))with|none=>none|some j=>match c ((A9 b (A4 a) z),(A9 b (A4 (w64 (a-1))) z),())with|none=>none|some (h,_)=>match(!(t h))with
  |true=>some (.inr (.inl (b,e,d,f,g,())))
  |false=>match idx b (w64 (a-1))with|none=>none|some k=>match idx b a with|none=>none|some l=>match idx b a with|none=>none|some m=>match idx (Bc b (A4 a) (A9 b (A4 (w64 (a-1))) z)) (w64 (a-1))with|none=>none|some n=>some (.inl ((Bc (Bc b (A4 a) (A9 b (A4 (w64 (a-1))) z)) (A4 (w64 (a-1))) (A9 b (A4 a) z)),e,d,f,g,(w64 (a+1)),()))
 |false=>some (.inr (.inl (b,e,d,f,g,())))
def KF[Lk]{α β:Type}(z:α)(c:α×α×Unit->Option (β×Unit))(t:β->Bool):(List α×Int×Int×Int×Int×Int×Unit)->Option ((List α×Int×Int×Int×Int×Int×Unit)⊕(List α×Int×Int×Int×Int×Unit)⊕Unit):=fun(b,d,e,f,g,a,_)=>
 match(ile 1 a)with
 |true=>match idx b a with|none=>none|some i=>match idx b (w64 (a-1))with|none=>none|some j=>match c ((A9 b (A4 a) z),(A9 b (A4 (w64 (a-1))) z),())with|none=>none|some (h,_)=>match(!(t h))with
  |true=>some (.inr (.inl (b,d,e,f,g,())))
  |false=>match idx b (w64 (a-1))with|none=>none|some k=>match idx b a with|none=>none|some l=>match idx b a with|none=>none|some m=>match idx (Bc b (A4 a) (A9 b (A4 (w64 (a-1))) z)) (w64 (a-1))with|none=>none|some n=>some (.inl ((Bc (Bc b (A4 a) (A9 b (A4 (w64 (a-1))) z)) (A4 (w64 (a-1))) (A9 b (A4 a) z)),d,e,f,g,(w64 (a-1)),()))
 |false=>some (.inr (.inl (b,d,e,f,g,())))
def Ng[Lk]{α β:Type}(z:α)(c:α×α×Unit->Option (β×Unit))(t:β->Bool):(List α×Int×Int×Int×Int×Unit)->Option ((List α×Int×Int×Int×Int×Unit)⊕(List α×Int×Int×Int×Int×Unit)⊕Unit):=fun(b,e,d,a,f,_)=>
 match(ilt a d)with
 |true=>match idx b a with|none=>none|some h=>match idx b (w64 (a-1))with|none=>none|some i=>match c ((A9 b (A4 a) z),(A9 b (A4 (w64 (a-1))) z),())with|none=>none|some (g,_)=>match(!(t g))with
  |true=>some (.inl (b,e,d,(w64 (a+1)),f,()))
  |false=>some (.inr (.inl (b,e,d,a,f,())))
 |false=>some (.inr (.inl (b,e,d,a,f,())))
def Ef[Lk]{α β:Type}(z:α)(c:α×α×Unit->Option (β×Unit))(t:β->Bool):(List α×Int×Int×Int×Int×Unit)->Option ((List α×Int×Int×Int×Int×Unit)⊕(List α×Bool×Unit)⊕(List α×Unit)⊕Unit):=fun(i,n,o,p,j,_)=>
 match(ilt j 5)with
 |true=>match A8 (Ng z c t) many (i,n,o,p,j,())with|none=>none|some r=>match r with
  |.inl (b,e,d,a,g,_)=>match(ieq a d)with
   |true=>some (.inr (.inl (b,true,())))
   |false=>match(ilt (w64 (d-e)) 50)with
   |true=>some (.inr (.inl (b,false,())))
   |false=>match idx b (w64 (a-1))with|none=>none|some D=>match idx b a with|none=>none|some E=>match idx b a with|none=>none|some F=>match idx (Bc b (A4 a) (A9 b (A4 (w64 (a-1))) z)) (w64 (a-1))with|none=>none|some G=>match(ile 2 (w64 (a-e)))with
   |true=>match A8 (KF z c t) many ((Bc (Bc b (A4 a) (A9 b (A4 (w64 (a-1))) z)) (A4 (w64 (a-1))) (A9 b (A4 a) z)),e,d,a,g,(w64 (a-1)),())with|none=>none|some r=>match r with
    |.inl (k,l,h,f,m,_)=>match(ile 2 (w64 (h-f)))with
     |true=>match A8 (KE z c t) many (k,l,h,f,m,(w64 (f+1)),())with|none=>none|some r=>match r with
      |.inl (q,s,u,v,w,_)=>some (.inl (q,s,u,v,(w64 (w+1)),()))
      |.inr _=>none
     |false=>some (.inl (k,l,h,f,(w64 (m+1)),()))
    |.inr _=>none
   |false=>match(ile 2 (w64 (d-a)))with
   |true=>match A8 (KE z c t) many ((Bc (Bc b (A4 a) (A9 b (A4 (w64 (a-1))) z)) (A4 (w64 (a-1))) (A9 b (A4 a) z)),e,d,a,g,(w64 (a+1)),())with|none=>none|some r=>match r with
    |.inl (x,y,A,B,C,_)=>some (.inl (x,y,A,B,(w64 (C+1)),()))
    |.inr _=>none
   |false=>some (.inl ((Bc (Bc b (A4 a) (A9 b (A4 (w64 (a-1))) z)) (A4 (w64 (a-1))) (A9 b (A4 a) z)),e,d,a,(w64 (g+1)),()))
  |.inr _=>none
 |false=>some (.inr (.inr (.inl (i,()))))
def FZ[Lk]{α β:Type}(z:α)(c:α×α×Unit->Option (β×Unit))(t:β->Bool):(List α×Int×Int×Unit)->Option ((List α×Bool×Unit)):=fun(b,a,d,_)=>
 match A8 (Ef z c t) many (b,a,d,(w64 (a+1)),0,())with|none=>none|some r=>match r with
 |.inl (e,f,_)=>some (e,f,())
 |.inr r=>match r with
 |.inl (g,_)=>some (g,false,())
 |.inr _=>none
def JO[Lk]{α β:Type}(z:α)(c:α×α×Unit->Option (β×Unit))(t:β->Bool)(v:(List α×Int×Int×Unit)):Option ((List α×Bool×Unit)):=Lk.f ((FZ z c t) v)
theorem qu{α β:Type}(z:α)(c:α×α×Unit->Option (β×Unit))(t:β->Bool)(v:(List α×Int×Int×Unit)):(JO z c t) v=(FZ z c t) v:=A0 _
def QR[Lk]{α β:Type}(z:α)(c:α×α×Unit->Option (β×Unit))(t:β->Bool):(List α×Int×Int×Int×Unit)->Option ((List α×Int×Int×Int×Unit)⊕(List α×Int×Int×Int×Unit)⊕Unit):=fun(a,d,e,b,_)=>
 match(ile e b)with
 |true=>match idx a d with|none=>none|some g=>match idx a b with|none=>none|some h=>match c ((A9 a (A4 d) z),(A9 a (A4 b) z),())with|none=>none|some (f,_)=>match(t f)with
  |true=>some (.inl (a,d,e,(w64 (b-1)),()))
  |false=>some (.inr (.inl (a,d,e,b,())))
 |false=>some (.inr (.inl (a,d,e,b,())))
def QS[Lk]{α β:Type}(z:α)(c:α×α×Unit->Option (β×Unit))(t:β->Bool):(List α×Int×Int×Int×Unit)->Option ((List α×Int×Int×Int×Unit)⊕(List α×Int×Int×Int×Unit)⊕Unit):=fun(a,d,b,e,_)=>
 match(ile b e)with
 |true=>match idx a d with|none=>none|some g=>match idx a b with|none=>none|some h=>match c ((A9 a (A4 d) z),(A9 a (A4 b) z),())with|none=>none|some (f,_)=>match(!(t f))with
  |true=>some (.inl (a,d,(w64 (b+1)),e,()))
  |false=>some (.inr (.inl (a,d,b,e,())))
 |false=>some (.inr (.inl (a,d,b,e,())))
def QT[Lk]{α β:Type}(z:α)(c:α×α×Unit->Option (β×Unit))(t:β->Bool):(List α×Int×Int×Int×Unit)->Option ((List α×Int×Int×Int×Unit)⊕(List α×Int×Unit)⊕Unit):=fun(e,f,g,h,_)=>
 match A8 (QS z c t) many (e,f,g,h,())with|none=>none|some r=>match r with
 |.inl (i,j,k,l,_)=>match A8 (QR z c t) many (i,j,k,l,())with|none=>none|some r=>match r with
  |.inl (a,m,b,d,_)=>match(ilt d b)with
   |true=>some (.inr (.inl (a,b,())))
   |false=>match idx a d with|none=>none|some n=>match idx a b with|none=>none|some o=>match idx a b with|none=>none|some p=>match idx (Bc a (A4 b) (A9 a (A4 d) z)) d with|none=>none|some q=>some (.inl ((Bc (Bc a (A4 b) (A9 a (A4 d) z)) (A4 d) (A9 a (A4 b) z)),m,(w64 (b+1)),(w64 (d-1)),()))
  |.inr _=>none
 |.inr _=>none
def G2[Lk]{α β:Type}(z:α)(c:α×α×Unit->Option (β×Unit))(t:β->Bool):(List α×Int×Int×Int×Unit)->Option ((List α×Int×Unit)):=fun(a,b,e,d,_)=>
 match idx a d with|none=>none|some h=>match idx a b with|none=>none|some i=>match idx a b with|none=>none|some j=>match idx (Bc a (A4 b) (A9 a (A4 d) z)) d with|none=>none|some k=>match A8 (QT z c t) many ((Bc (Bc a (A4 b) (A9 a (A4 d) z)) (A4 d) (A9 a (A4 b) z)),b,(w64 (b+1)),(w64 (e-1)),())with|none=>none|some r=>match r with
 |.inl (f,g,_)=>some (f,g,())
 |.inr _=>none
def L7[Lk]{α β:Type}(z:α)(c:α×α×Unit->Option (β×Unit))(t:β->Bool)(v:(List α×Int×Int×Int×Unit)):Option ((List α×Int×Unit)):=Lk.f ((G2 z c t) v)
theorem xz{α β:Type}(z:α)(c:α×α×Unit->Option (β×Unit))(t:β->Bool)(v:(List α×Int×Int×Int×Unit)):(L7 z c t) v=(G2 z c t) v:=A0 _
def Z_[Lk]{α β:Type}(z:α)(c:α×α×Unit->Option (β×Unit))(t:β->Bool):(List α×Int×Int×Int×Unit)->Option ((List α×Int×Int×Int×Unit)⊕(List α×Int×Int×Int×Unit)⊕Unit):=fun(a,d,e,b,_)=>
 match(ile e b)with
 |true=>match idx a b with|none=>none|some g=>match idx a d with|none=>none|some h=>match c ((A9 a (A4 b) z),(A9 a (A4 d) z),())with|none=>none|some (f,_)=>match(!(t f))with
  |true=>some (.inl (a,d,e,(w64 (b-1)),()))
  |false=>some (.inr (.inl (a,d,e,b,())))
 |false=>some (.inr (.inl (a,d,e,b,())))
def Z'[Lk]{α β:Type}(z:α)(c:α×α×Unit->Option (β×Unit))(t:β->Bool):(List α×Int×Int×Int×Unit)->Option ((List α×Int×Int×Int×Unit)⊕(List α×Int×Int×Int×Unit)⊕Unit):=fun(a,d,b,e,_)=>
 match(ile b e)with
 |true=>match idx a b with|none=>none|some g=>match idx a d with|none=>none|some h=>match c ((A9 a (A4 b) z),(A9 a (A4 d) z),())with|none=>none|some (f,_)=>match(t f)with
  |true=>some (.inl (a,d,(w64 (b+1)),e,()))
  |false=>some (.inr (.inl (a,d,b,e,())))
 |false=>some (.inr (.inl (a,d,b,e,())))
def aA[Lk]{α β:Type}(z:α)(c:α×α×Unit->Option (β×Unit))(t:β->Bool):(List α×Int×Int×Int×Unit)->Option ((List α×Int×Int×Int×Unit)⊕(List α×Int×Int×Unit)⊕Unit):=fun(f,g,h,i,_)=>
 match A8 (Z' z c t) many (f,g,h,i,())with|none=>none|some r=>match r with
 |.inl (j,k,l,m,_)=>match A8 (Z_ z c t) many (j,k,l,m,())with|none=>none|some r=>match r with
  |.inl (a,e,d,b,_)=>match(ilt b d)with
   |true=>some (.inr (.inl (a,e,b,())))
   |false=>match idx a b with|none=>none|some n=>match idx a d with|none=>none|some o=>match idx a d with|none=>none|some p=>match idx (Bc a (A4 d) (A9 a (A4 b) z)) b with|none=>none|some q=>some (.inl ((Bc (Bc a (A4 d) (A9 a (A4 b) z)) (A4 b) (A9 a (A4 d) z)),e,(w64 (d+1)),(w64 (b-1)),()))
  |.inr _=>none
 |.inr _=>none
def aB[Lk]{α β:Type}(z:α)(c:α×α×Unit->Option (β×Unit))(t:β->Bool):(List α×Int×Int×Int×Unit)->Option ((List α×Int×Int×Int×Unit)⊕(List α×Int×Int×Int×Unit)⊕Unit):=fun(a,d,e,b,_)=>
 match(ile e b)with
 |true=>match idx a b with|none=>none|some g=>match idx a d with|none=>none|some h=>match c ((A9 a (A4 b) z),(A9 a (A4 d) z),())with|none=>none|some (f,_)=>match(!(t f))with
  |true=>some (.inl (a,d,e,(w64 (b-1)),()))
  |false=>some (.inr (.inl (a,d,e,b,())))
 |false=>some (.inr (.inl (a,d,e,b,())))
def aC[Lk]{α β:Type}(z:α)(c:α×α×Unit->Option (β×Unit))(t:β->Bool):(List α×Int×Int×Int×Unit)->Option ((List α×Int×Int×Int×Unit)⊕(List α×Int×Int×Int×Unit)⊕Unit):=fun(a,d,b,e,_)=>
 match(ile b e)with
 |true=>match idx a b with|none=>none|some g=>match idx a d with|none=>none|some h=>match c ((A9 a (A4 b) z),(A9 a (A4 d) z),())with|none=>none|some (f,_)=>match(t f)with
  |true=>some (.inl (a,d,(w64 (b+1)),e,()))
  |false=>some (.inr (.inl (a,d,b,e,())))
 |false=>some (.inr (.inl (a,d,b,e,())))
def L6[Lk]{α β:Type}(z:α)(c:α×α×Unit->Option (β×Unit))(t:β->Bool):(List α×Int×Int×Int×Unit)->Option ((List α×Int×Bool×Unit)):=fun(d,f,l,j,_)=>
 match idx d j with|none=>none|some q=>match idx d f with|none=>none|some s=>match idx d f with|none=>none|some u=>match idx (Bc d (A4 f) (A9 d (A4 j) z)) j with|none=>none|some v=>match A8 (aC z c t) many ((Bc (Bc d (A4 f) (A9 d (A4 j) z)) (A4 j) (A9 d (A4 f) z)),f,(w64 (f+1)),(w64 (l-1)),())with|none=>none|some r=>match r with
 |.inl (m,n,o,p,_)=>match A8 (aB z c t) many (m,n,o,p,())with|none=>none|some r=>match r with
  |.inl (a,h,g,b,_)=>match(ilt b g)with
   |true=>match idx a h with|none=>none|some w=>match idx a b with|none=>none|some x=>match idx a b with|none=>none|some y=>match idx (Bc a (A4 b) (A9 a (A4 h) z)) h with|none=>none|some A=>some ((Bc (Bc a (A4 b) (A9 a (A4 h) z)) (A4 h) (A9 a (A4 b) z)),b,true,())
   |false=>match idx a b with|none=>none|some B=>match idx a g with|none=>none|some C=>match idx a g with|none=>none|some D=>match idx (Bc a (A4 g) (A9 a (A4 b) z)) b with|none=>none|some E=>match A8 (aA z c t) many ((Bc (Bc a (A4 g) (A9 a (A4 b) z)) (A4 b) (A9 a (A4 g) z)),h,(w64 (g+1)),(w64 (b-1)),())with|none=>none|some r=>match r with
   |.inl (e,k,i,_)=>match idx e k with|none=>none|some F=>match idx e i with|none=>none|some G=>match idx e i with|none=>none|some H=>match idx (Bc e (A4 i) (A9 e (A4 k) z)) k with|none=>none|some I=>some ((Bc (Bc e (A4 i) (A9 e (A4 k) z)) (A4 k) (A9 e (A4 i) z)),i,false,())
   |.inr _=>none
  |.inr _=>none
 |.inr _=>none
def R5[Lk]{α β:Type}(z:α)(c:α×α×Unit->Option (β×Unit))(t:β->Bool)(v:(List α×Int×Int×Int×Unit)):Option ((List α×Int×Bool×Unit)):=Lk.f ((L6 z c t) v)
theorem ALy{α β:Type}(z:α)(c:α×α×Unit->Option (β×Unit))(t:β->Bool)(v:(List α×Int×Int×Int×Unit)):(R5 z c t) v=(L6 z c t) v:=A0 _
def T_[Lk]{α β:Type}(z:α)(c:α×α×Unit->Option (β×Unit))(t:β->Bool)(self:(List α×Int×Int×Int×Unit)->Option ((List α×Unit)))(f:List α)(a b p l:Int)(n o:Bool):Option ((List α×Int×Int×Int×Bool×Bool×Unit)⊕(List α×Unit)⊕Unit):=
 match(ilt 0 a)with
 |true=>match idx f (w64 (a-1))with|none=>none|some y=>match idx f p with|none=>none|some A=>match c ((A9 f (A4 (w64 (a-1))) z),(A9 f (A4 p) z),())with|none=>none|some (q,_)=>match(!(t q))with
  |true=>match(L7 z c t) (f,a,b,p,())with|none=>none|some (r,s,_)=>some (.inl (r,s,b,l,n,o,()))
  |false=>match(R5 z c t) (f,a,b,p,())with|none=>none|some (g,d,h,_)=>match quo? .i64 (w64 (b-a)) 8 with|none=>none|some i=>match(ilt (w64 (d-a)) (w64 (b-d)))with
  |true=>match self (g,a,d,l,())with|none=>none|some (u,_)=>some (.inl (u,(w64 (d+1)),b,l,(ile i (w64 (d-a))),h,()))
  |false=>match self (g,(w64 (d+1)),b,l,())with|none=>none|some (v,_)=>some (.inl (v,a,d,l,(ile i (w64 (b-d))),h,()))
 |false=>match(R5 z c t) (f,a,b,p,())with|none=>none|some (j,e,k,_)=>match quo? .i64 (w64 (b-a)) 8 with|none=>none|some m=>match(ilt (w64 (e-a)) (w64 (b-e)))with
 |true=>match self (j,a,e,l,())with|none=>none|some (w,_)=>some (.inl (w,(w64 (e+1)),b,l,(ile m (w64 (e-a))),k,()))
 |false=>match self (j,(w64 (e+1)),b,l,())with|none=>none|some (x,_)=>some (.inl (x,a,e,l,(ile m (w64 (b-e))),k,()))
def k6[Lk]{α β:Type}(z:α)(c:α×α×Unit->Option (β×Unit))(t:β->Bool)(self:(List α×Int×Int×Int×Unit)->Option ((List α×Unit)))(f:List α)(a b p h l:Int)(d e:Bool):Option ((List α×Int×Int×Int×Bool×Bool×Unit)⊕(List α×Unit)⊕Unit):=
 match d with
 |true=>match e with
  |true=>match(ieq h 1)with
   |true=>match(JO z c t) (f,a,b,())with|none=>none|some (g,i,_)=>match i with
    |true=>some (.inr (.inl (g,())))
    |false=>(T_ z c t) self g a b p l d e
   |false=>(T_ z c t) self f a b p l d e
  |false=>(T_ z c t) self f a b p l d e
 |false=>(T_ z c t) self f a b p l d e
def k0[Lk]{α β:Type}(z:α)(c:α×α×Unit->Option (β×Unit))(t:β->Bool)(self:(List α×Int×Int×Int×Unit)->Option ((List α×Unit)))(i:List α)(a b l:Int)(d e:Bool):Option ((List α×Int×Int×Int×Bool×Bool×Unit)⊕(List α×Unit)⊕Unit):=
 match(QM z c t) (i,a,b,())with|none=>none|some (f,g,h,_)=>match(ieq h 2)with
 |true=>match(wU z c t) (f,a,b,())with|none=>none|some (j,_)=>(k6 z c t) self j a b (w64 ((w64 (b-1))-(w64 (g-a)))) 1 l d e
 |false=>(k6 z c t) self f a b g h l d e
def KD[Lk]{α β:Type}(z:α)(c:α×α×Unit->Option (β×Unit))(t:β->Bool)(self:(List α×Int×Int×Int×Unit)->Option ((List α×Unit))):(List α×Int×Int×Int×Bool×Bool×Unit)->Option ((List α×Int×Int×Int×Bool×Bool×Unit)⊕(List α×Unit)⊕Unit):=fun(d,a,b,e,f,g,_)=>
 match(ile (w64 (b-a)) 12)with
 |true=>match(zH z c t) (d,a,b,())with|none=>none|some (h,_)=>some (.inr (.inl (h,())))
 |false=>match(ieq e 0)with
 |true=>match(bX z c t) (d,a,b,())with|none=>none|some (i,_)=>some (.inr (.inl (i,())))
 |false=>match(!f)with
 |true=>match(Q_ z c t) (d,a,b,())with|none=>none|some (j,_)=>(k0 z c t) self j a b (w64 (e-1)) f g
 |false=>(k0 z c t) self d a b e f g
def QN[Lk]{α β:Type}(z:α)(c:α×α×Unit->Option (β×Unit))(t:β->Bool)(self:(List α×Int×Int×Int×Unit)->Option ((List α×Unit))):(List α×Int×Int×Int×Unit)->Option ((List α×Unit)):=fun(a,b,d,e,_)=>
 match A8 ((KD z c t) self) many (a,b,d,e,true,true,())with|none=>none|some r=>match r with
 |.inl (f,_)=>some (f,())
 |.inr _=>none
def JN[Lk]{α β:Type}(z:α)(c:α×α×Unit->Option (β×Unit))(t:β->Bool):Nat->(List α×Int×Int×Int×Unit)->Option ((List α×Unit))
 |0,_=>none
 |n+1,v=>(QN z c t) ((JN z c t) n) v
def xW[Lk]{α β:Type}(z:α)(c:α×α×Unit->Option (β×Unit))(t:β->Bool)(v:(List α×Int×Int×Int×Unit)):Option ((List α×Unit)):=Lk.f ((JN z c t) 100 v)
theorem AQc{α β:Type}(z:α)(c:α×α×Unit->Option (β×Unit))(t:β->Bool)(v:(List α×Int×Int×Int×Unit)):(xW z c t) v=(JN z c t) 100 v:=A0 _
def Lx[Lk]{α β:Type}(z:α)(c:α×α×Unit->Option (β×Unit))(t:β->Bool):(List α×Unit)->Option ((List α×Unit)):=fun(a,_)=>
 match bitsLen ((IntKind.wrap .u64 (A2 a)),())with|none=>none|some (b,_)=>match(xW z c t) (a,0,(A2 a),b,())with|none=>none|some (d,_)=>some (d,())
def fh[Lk]{α β:Type}(z:α)(c:α×α×Unit->Option (β×Unit))(t:β->Bool)(v:(List α×Unit)):Option ((List α×Unit)):=Lk.f ((Lx z c t) v)
theorem AJx{α β:Type}(z:α)(c:α×α×Unit->Option (β×Unit))(t:β->Bool)(v:(List α×Unit)):(fh z c t) v=(Lx z c t) v:=A0 _
abbrev Al:Loc×Con:=(.tmp 3,.clo 321 [])
abbrev Am:Loc×Con:=(.tmp 0,.own 36 U6)
abbrev UU:A1:=[Am,AI,AJ,Al]
abbrev An:Loc×Con:=(.obj 0,.own 36 U6)
abbrev JX:A1:=[An]
abbrev Bw:List RS:=[]
abbrev Ao:Loc×Con:=(.tmp 0,.own' 0)
abbrev ARN:A1:=[An,Ao,AI,AJ,Al,AT,Ah]
abbrev ARM:BH:=[(.exit 2,[An,Ao,AI,AJ,Al,AT])]
abbrev ARO:A1:=[An,Ao,AI,AJ,Al,AT]
abbrev lj:BH:=[(.exit 0,[An])]
def AUA[Lk]:=Qj (([]:List (Int)):U5) C1 tLt
def AVL[Lk]:=zH (([]:List (Int)):U5) C1 tLt
theorem ARP v:AVL v=AUA v:=A0 _
abbrev Ap:Loc×Con:=(.tmp 4,.clo 321 [])
abbrev J':A1:=[Am,AI,AJ,AX,Ap]
abbrev AJ7:A1:=[An,Ao,AJ,AX,Ap,Ad]
abbrev AJ6:BH:=[(.exit 0,[An]),(.ret,[An])]
def APp[Lk]:=Lz (([]:List (Int)):U5) C1 tLt
def ASm[Lk]:=WL (([]:List (Int)):U5) C1 tLt
theorem AJ8 v:ASm v=APp v:=A0 _
abbrev AM4:A1:=[An,Ao,Al,AT,Ah,AR]
abbrev AM2:BH:=[(.exit 2,[An])]
abbrev AM5:A1:=[An,Ao,Al,AT,Ah,Ad,Ae]
abbrev AM3:BH:=[(.exit 0,[An,Ao,Al,AT,Ah,Ad])]
def ARf[Lk]:=MW (([]:List (Int)):U5) C1 tLt
def AS0[Lk]:=bX (([]:List (Int)):U5) C1 tLt
theorem AM6 v:AS0 v=ARf v:=A0 _
abbrev Aq:Loc×Con:=(.cell 1 0,.dat (.int .u64))
abbrev Ar:Loc×Con:=(.tmp 10,.dat (.int .u64))
abbrev AIk:A1:=[An,Ao,AI,AT,(.tmp 9,.box 1),Aq,Ar,Ae]
def AOU[Lk]:=Js (([]:List (Int)):U5) C1 tLt
def AOW[Lk]:=Q_ (([]:List (Int)):U5) C1 tLt
theorem AIl v:AOW v=AOU v:=A0 _
abbrev As:Loc×Con:=(.tmp 3,.box 1)
abbrev AFi:A1:=[Am,AI,AJ,As,AQ,Ap]
abbrev At:Loc×Con:=(.obj 1,.box 1)
abbrev AFh:A1:=[An,At,AQ,AB,AI]
abbrev BO:List RS:=[.one,.one]
def AFj[Lk]:=G3 (([]:List (Int)):U5) C1 tLt
def AB6[Lk]:=IV (([]:List (Int)):U5) C1 tLt
theorem yF v:AB6 v=AFj v:=A0 _
abbrev Au:Loc×Con:=(.tmp 4,.box 1)
abbrev AF6:A1:=[Am,AI,AJ,AX,Au,AQ,(.tmp 5,.clo 321 [])]
abbrev gn:A1:=[An,At,AQ,AB]
def AF7[Lk]:=G6 (([]:List (Int)):U5) C1 tLt
def ACJ[Lk]:=IX (([]:List (Int)):U5) C1 tLt
theorem yV v:ACJ v=AF7 v:=A0 _
abbrev Av:Loc×Con:=(.tmp 2,.box 1)
abbrev AGI:A1:=[Am,AI,Av,AQ,Al]
def AGJ[Lk]:=G7 (([]:List (Int)):U5) C1 tLt
def ACO[Lk]:=IY (([]:List (Int)):U5) C1 tLt
theorem ya v:ACO v=AGJ v:=A0 _
abbrev ALJ:A1:=[An,AB,AI]
def ALK[Lk]:=JL (([]:List (Int)):U5) C1 tLt
def ALM[Lk]:=QM (([]:List (Int)):U5) C1 tLt
theorem AE8 v:ALM v=ALK v:=A0 _
abbrev AP4:A1:=[An,Ao,AT,Ah]
def ATL[Lk]:=QH (([]:List (Int)):U5) C1 tLt
def AU5[Lk]:=wU (([]:List (Int)):U5) C1 tLt
theorem AP5 v:AU5 v=ATL v:=A0 _
abbrev xd:A1:=[An,AF]
abbrev qh:A1:=[An,Ao,AI,AJ,Al,Ah,Ad,AR]
abbrev qd:BH:=[(.exit 6,[An,Ao,AI,AJ,Al,Ah,Ad])]
abbrev qi:A1:=[An,Ao,AI,AJ,Al,Ah,Ad,Ae]
abbrev qe:BH:=[(.exit 4,[An,Ao,AI,AJ,Al,Ah,Ad])]
abbrev Wa:A1:=[An,Ao,AI,AJ,Al,Ah,Ad]
abbrev qf:BH:=[(.exit 2,[An,Ao,AI,AJ,Al,Ah,Ad])]
abbrev Aw:Loc×Con:=(.tmp 8,.dat .bool)
abbrev qg:BH:=[(.ret,[An,Aw]),(.exit 0,[An])]
def xe[Lk]:=FZ (([]:List (Int)):U5) C1 tLt
def qk[Lk]:=JO (([]:List (Int)):U5) C1 tLt
theorem qj v:qk v=xe v:=A0 _
abbrev AFU:A1:=[An,AB]
abbrev QP:A1:=[An,Ao,AI,Ap,Ae,AR]
abbrev xq:BH:=[(.exit 4,[An,Ao,AI,Ap,Ae,AR])]
abbrev xr:BH:=[(.exit 2,[An,Ao,AI,Ap,Ae,AR])]
abbrev xt:BH:=[(.exit 0,[An,Ae])]
def AFV[Lk]:=G2 (([]:List (Int)):U5) C1 tLt
def AB2[Lk]:=L7 (([]:List (Int)):U5) C1 tLt
theorem xu v:AB2 v=AFV v:=A0 _
abbrev Ax:Loc×Con:=(.tmp 1,.dat .bool)
abbrev AQk:A1:=[An,AB,Ax]
abbrev Nf:A1:=[An,Ao,AI,Ap,AR,AS]
abbrev ALm:BH:=[(.exit 8,[An,Ao,AI,Ap,AR,AS])]
abbrev ALn:BH:=[(.exit 6,[An,Ao,AI,Ap,AR,AS])]
abbrev ALo:BH:=[(.exit 4,[An,Ao,AI,AS])]
abbrev ALp:BH:=[(.exit 2,[An,Ao,AI,Ap,AR,AS])]
abbrev ALq:BH:=[(.exit 0,[An,Ao,AI,Ap,AR,AS])]
def AQl[Lk]:=L6 (([]:List (Int)):U5) C1 tLt
def ASs[Lk]:=R5 (([]:List (Int)):U5) C1 tLt
theorem ALr v:ASs v=AQl v:=A0 _
abbrev Ay:Loc×Con:=(.tmp 11,.dat .bool)
abbrev Az:Loc×Con:=(.tmp 10,.dat .bool)
abbrev ABu:A1:=[An,Ao,AI,AJ,AX,Ap,Az,Ay]
abbrev ABt:BH:=[(.ret,[An])]
def ABs[Lk]:=KD (([]:List (Int)):U5) C1 tLt
def ATf[Lk]:=QN (([]:List (Int)):U5) C1 tLt
def Z7[Lk]:=JN (([]:List (Int)):U5) C1 tLt
def AQX[Lk]:=xW (([]:List (Int)):U5) C1 tLt
theorem AQW v:AQX v=Z7 100 v:=A0 _
abbrev APe:A1:=[Am,(.tmp 1,.clo 321 [])]
def APf[Lk]:=Lx (([]:List (Int)):U5) C1 tLt
def ABX[Lk]:=fh (([]:List (Int)):U5) C1 tLt
theorem AJv v:ABX v=APf v:=A0 _
abbrev AYt:Loc×Con:=(.cell 0 1,.dat Ud)
abbrev LJ:A1:=[AD,(.cap 1 0,.box 2),AN,AYt,(.tmp 1,.clo 172 [(0,0)])]
abbrev AYu:Loc×Con:=(.obj 0,.box 2)
abbrev U':A1:=[AYu,AN,AYt,AB]
abbrev Sd:A1:=[AYu,AN,AYt,AD,(.tmp 1,.clo 172 [(0,0)]),AU,AT]
abbrev Sc:BH:=[(.ret,[AYu,AN,AYt,AW]),(.exit 0,[AYu,AN,AYt])]
def De[Lk]:(Int×List U5×List Int×Int×Int×Unit)->Option ((Int×List U5×List Int×Int×Int×Unit)⊕Vi⊕(Int×List U5×Unit)⊕Unit):=fun(a,c,d,e,b,_)=>
 match(ilt b e)with
 |true=>match idx d b with|none=>none|some f=>match(ilt f 0)with
  |true=>some (.inr (.inl (a,c,b,())))
  |false=>match(ile a f)with
  |true=>some (.inr (.inl (a,c,b,())))
  |false=>some (.inl (a,c,d,e,(w64 (b+1)),()))
 |false=>some (.inr (.inr (.inl (a,c,()))))
def HA[Lk]:(List Int×Int×List U5×Unit)->Option (Vi):=fun(a,b,c,_)=>
 match A8 De many (b,c,a,(A2 a),0,())with|none=>none|some r=>match r with
 |.inl (d,e,f,_)=>some (d,e,f,())
 |.inr r=>match r with
 |.inl (g,h,_)=>some (g,h,(-1:Int),())
 |.inr _=>none
def Jc[Lk]:=lkk HA
theorem KN v:Jc v=HA v:=A0 _
abbrev AYv:Loc×Con:=(.tmp 0,.dat V4)
abbrev AUQ:A1:=[AYv]
abbrev AYw:Loc×Con:=(.tmp 3,.own 3 U0)
abbrev AR6:A1:=[AYw,(.tmp 6,.dat V4),AU,AT]
abbrev ACm:BH:=[(.exit 0,[AYw])]
def S0[Lk]:(List Int×List U4×Int×Int×Unit)->Option ((List Int×List U4×Int×Int×Unit)⊕Ue⊕Unit):=fun(b,d,e,c,_)=>
 match(ilt c e)with
 |true=>match idx d c with|none=>none|some a=>match(fits ((A2 b)+(A2 ([a.1,a.2.1]:List (Int)))))with
  |true=>some (.inl ((BV b ([a.1,a.2.1]:List (Int))),d,e,(w64 (c+1)),()))
  |false=>none
 |false=>some (.inr (.inl (b,())))
def zi[Lk]:Vf->Option (Ue):=fun(a,_)=>
 match A8 S0 many (([]:List (Int)),a,(A2 a),0,())with|none=>none|some r=>match r with
 |.inl (b,_)=>some (b,())
 |.inr _=>none
def ends[Lk]:=lkk zi
theorem ACn v:ends v=zi v:=A0 _
abbrev ATv:A1:=[AX,(.tmp 6,.dat U6),AU,AT]
abbrev ATu:BH:=[(.ret,[AJ]),(.exit 0,[AX])]
def Kb[Lk]:(Int×List Int×Int×Int×Unit)->Option ((Int×List Int×Int×Int×Unit)⊕U9⊕U9⊕Unit):=fun(a,c,d,b,_)=>
 match(ilt b d)with
 |true=>match idx c b with|none=>none|some e=>match(!(ieq e a))with
  |true=>some (.inr (.inl (e,())))
  |false=>some (.inl (a,c,d,(w64 (b+1)),()))
 |false=>some (.inr (.inr (.inl (a,()))))
def rI[Lk]:Ue->Option (U9):=fun(a,_)=>
 match A8 Kb many (0,a,(A2 a),0,())with|none=>none|some r=>match r with
 |.inl (b,_)=>some (b,())
 |.inr r=>match r with
 |.inl (c,_)=>some (c,())
 |.inr _=>none
def orI[Lk]:=lkk rI
theorem lD v:orI v=rI v:=A0 _
def SF[Lk]:U9->Option (Ua):=fun(a,_)=>
 match(ile 1 a)with
 |true=>some ((ile a 64),())
 |false=>some (false,())
def aV[Lk]:=lkk SF
theorem UJ v:aV v=SF v:=A0 _
def AMM[Lk]:U9->Option (U9):=fun(a,_)=>
 match aV (a,())with|none=>none|some (b,_)=>match(!b)with
 |true=>some (0,())
 |false=>match bitsLen ((IntKind.wrap .u64 (w64 (a-1))),())with|none=>none|some (c,_)=>some (c,())
def lN[Lk]:=lkk AMM
theorem AQ1 v:lN v=AMM v:=A0 _
abbrev ae:A1:=[(.tmp 0,.dat U1),(.tmp 1,.dat U1)]
def MH[Lk]:(U2×U2×Unit)->Option (U9):=fun(a,b,_)=>
 match EJ (a.1,b.1,())with|none=>none|some (c,_)=>match EJ (a.2.1,b.2.1,())with|none=>none|some (d,_)=>match orI (([c,d]:List (Int)),())with|none=>none|some (e,_)=>some (e,())
def GJ[Lk]:=lkk MH
theorem Nr v:GJ v=MH v:=A0 _
abbrev AYx:Loc×Con:=(.tmp 0,.dat Uk)
abbrev Nq:A1:=[AYx,AI]
abbrev AYy:Loc×Con:=(.tmp 0,.own 88 U3)
abbrev aT:A1:=[AYy]
abbrev AYz:Loc×Con:=(.tmp 5,.own 88 U3)
abbrev AGY:A1:=[AI,AYz,(.tmp 9,.dat Uq),Ad,Ae]
abbrev gr:BH:=[(.exit 0,[AYz])]
def Ez[Lk]:(Int×List U4×List U2×Int×Int×Unit)->Option ((Int×List U4×List U2×Int×Int×Unit)⊕Vf⊕Unit):=fun(d,b,e,f,c,_)=>
 match(ilt c f)with
 |true=>match idx e c with|none=>none|some a=>match a.2.2.2.1 with
  |true=>match(ile d a.2.2.1)with
   |true=>match(fits ((A2 b)+(A2 ([(a.1,(a.2.1,()))]:List U4))))with
    |true=>some (.inl (d,(BV b ([(a.1,(a.2.1,()))]:List U4)),e,f,(w64 (c+1)),()))
    |false=>none
   |false=>some (.inl (d,b,e,f,(w64 (c+1)),()))
  |false=>some (.inl (d,b,e,f,(w64 (c+1)),()))
 |false=>some (.inr (.inl (b,())))
def SD[Lk]:(Uc×Int×Unit)->Option (Vf):=fun(a,b,_)=>
 match A8 Ez many (b,([]:List U4),a.2.1,(A2 a.2.1),0,())with|none=>none|some r=>match r with
 |.inl (c,_)=>some (c,())
 |.inr _=>none
def UI[Lk]:=lkk SD
theorem UH v:UI v=SD v:=A0 _
abbrev AY0:Loc×Con:=(.tmp 1,.dat V4)
abbrev H4:A1:=[AB,AY0]
abbrev AY1:Loc×Con:=(.tmp 7,.dat .bool)
abbrev AY2:Loc×Con:=(.tmp 5,.own 3 U0)
abbrev nS:A1:=[AB,AY0,AY2,AY1,AT]
abbrev nO:BH:=[(.exit 4,[AB,AY0,AY2,AY1])]
def GY[Lk]:(Int×List U4×List Int×Bool×Int×Unit)->Option ((Int×List U4×List Int×Bool×Int×Unit)⊕(Int×List U4×List Int×Bool×Unit)⊕Unit):=fun(e,c,a,g,f,_)=>
 match(ilt f (A2 c))with
 |true=>match idx c f with|none=>none|some b=>match idx c f with|none=>none|some d=>match(ilt b.1 0)with
  |true=>some (.inl (e,c,a,g,(w64 (f+1)),()))
  |false=>match(ilt d.2.1 0)with
  |true=>some (.inl (e,c,a,g,(w64 (f+1)),()))
  |false=>match(ile e b.1)with
  |true=>some (.inl (e,c,a,g,(w64 (f+1)),()))
  |false=>match(ile e d.2.1)with
  |true=>some (.inl (e,c,a,g,(w64 (f+1)),()))
  |false=>match idx a b.1 with|none=>none|some h=>match idx a d.2.1 with|none=>none|some i=>match(ieq (A9 a (A4 b.1) 0) (A9 a (A4 d.2.1) 0))with
  |true=>some (.inl (e,c,a,g,(w64 (f+1)),()))
  |false=>match idx a b.1 with|none=>none|some j=>match idx a d.2.1 with|none=>none|some k=>match idx a b.1 with|none=>none|some l=>match idx (Bc a (A4 b.1) (Cp (A9 a (A4 b.1) 0) (A9 a (A4 d.2.1) 0))) d.2.1 with|none=>none|some m=>some (.inl (e,c,(Bc (Bc a (A4 b.1) (Cp (A9 a (A4 b.1) 0) (A9 a (A4 d.2.1) 0))) (A4 d.2.1) (Cp (A9 a (A4 b.1) 0) (A9 a (A4 d.2.1) 0))),true,(w64 (f+1)),()))
 |false=>some (.inr (.inl (e,c,a,g,())))
abbrev nT:A1:=[AB,AY0,AY2,AY1]
abbrev nP:BH:=[(.exit 2,[AY2])]
def Ii[Lk]:(Int×List U4×List Int×Bool×Unit)->Option ((Int×List U4×List Int×Bool×Unit)⊕Ue⊕Unit):=fun(b,c,a,d,_)=>
 match d with
 |true=>match A8 GY many (b,c,a,false,0,())with|none=>none|some r=>match r with
  |.inl (e,f,g,h,_)=>some (.inl (e,f,g,h,()))
  |.inr _=>none
 |false=>some (.inr (.inl (a,())))
abbrev AY3:Loc×Con:=(.tmp 6,.di)
abbrev nU:A1:=[AB,AY0,AY2,AY3]
abbrev nQ:BH:=[(.exit 0,[AB,AY0,AY2])]
def GZ[Lk]:(Int×List U4×List Int×Int×Unit)->Option ((Int×List U4×List Int×Int×Unit)⊕(Int×List U4×List Int×Unit)⊕Unit):=fun(b,d,c,a,_)=>
 match(ilt a b)with
 |true=>match(fits ((A2 c)+(A2 ([a]:List (Int)))))with
  |true=>some (.inl (b,d,(BV c ([a]:List (Int))),(w64 (a+1)),()))
  |false=>none
 |false=>some (.inr (.inl (b,d,c,())))
def OQ[Lk]:(Int×List U4×Unit)->Option (Ue):=fun(a,b,_)=>
 match A8 GZ many (a,b,([]:List (Int)),0,())with|none=>none|some r=>match r with
 |.inl (c,d,e,_)=>match A8 Ii many (c,d,e,true,())with|none=>none|some r=>match r with
  |.inl (f,_)=>some (f,())
  |.inr _=>none
 |.inr _=>none
def PI[Lk]:=lkk OQ
theorem TF v:PI v=OQ v:=A0 _
abbrev AJW:A1:=[AX,AW]
def AJV[Lk]:U4->Option (U4⊕U9⊕Unit):=fun(a,b,_)=>
 match(ilt 0 b)with
 |true=>match quo? .i64 b 2 with|none=>none|some c=>some (.inl ((w64 (a+1)),c,()))
 |false=>some (.inr (.inl (a,())))
def ABN[Lk]:U9->Option (U9):=fun(a,_)=>
 match(ilt a 1)with
 |true=>some (0,())
 |false=>match(ilt 64 a)with
 |true=>some (0,())
 |false=>match A8 AJV many (0,(w64 (a-1)),())with|none=>none|some r=>match r with
 |.inl (b,_)=>some (b,())
 |.inr _=>none
def Ra[Lk]:=lkk ABN
theorem AJX v:Ra v=ABN v:=A0 _
abbrev K1:A1:=[AYx]
abbrev AY4:Loc×Con:=(.cell 0 1,.dat Uq)
abbrev AY5:Loc×Con:=(.tmp 3,.own 88 U3)
abbrev AY6:Loc×Con:=(.tmp 1,.box 2)
abbrev wI:A1:=[AY6,AN,AY4,AY5,Aa,AU,AT]
abbrev wG:BH:=[(.exit 2,[AY6,AN,AY4,AY5,AU])]
def Gv[Lk]:(Int×List U2×List U4×List Int×Int×Int×Unit)->Option ((Int×List U2×List U4×List Int×Int×Int×Unit)⊕(Int×List U2×List U4×Int×Unit)⊕Unit):=fun(b,d,e,c,f,a,_)=>
 match(ilt a b)with
 |true=>match idx c a with|none=>none|some g=>match(ieq (A9 c (A4 a) 0) a)with
  |true=>some (.inl (b,d,e,c,(w64 (f+1)),(w64 (a+1)),()))
  |false=>some (.inl (b,d,e,c,f,(w64 (a+1)),()))
 |false=>some (.inr (.inl (b,d,e,f,())))
abbrev wJ:A1:=[AY6,AN,AY4,AY5,AW]
abbrev wH:BH:=[(.ret,[AK]),(.exit 0,[AY6,AN,AY4,AY5])]
def FX[Lk]:(Int×List U2×List U4×Int×Unit)->Option ((Int×List U2×List U4×Int×Unit)⊕Ua⊕(Int×List U2×List U4×Unit)⊕Unit):=fun(e,b,d,c,_)=>
 match(ilt c (A2 b))with
 |true=>match idx b c with|none=>none|some a=>match(ilt a.1 0)with
  |true=>some (.inr (.inl (false,())))
  |false=>match(ile a.2.1 a.1)with
  |true=>some (.inr (.inl (false,())))
  |false=>match(ile e a.2.1)with
  |true=>some (.inr (.inl (false,())))
  |false=>match(ilt a.2.2.1 0)with
  |true=>some (.inr (.inl (false,())))
  |false=>match Ra (e,())with|none=>none|some (f,_)=>match(ilt f a.2.2.1)with
  |true=>some (.inr (.inl (false,())))
  |false=>match(ilt 0 c)with
  |true=>match idx b (w64 (c-1))with|none=>none|some g=>match(ilt a.1 g.1)with
   |true=>some (.inr (.inl (false,())))
   |false=>match idx b (w64 (c-1))with|none=>none|some h=>match(ieq h.1 a.1)with
   |true=>match idx b (w64 (c-1))with|none=>none|some i=>match(ile a.2.1 i.2.1)with
    |true=>some (.inr (.inl (false,())))
    |false=>match a.2.2.2.1 with
    |true=>match(fits ((A2 d)+(A2 ([(a.1,(a.2.1,()))]:List U4))))with
     |true=>some (.inl (e,b,(BV d ([(a.1,(a.2.1,()))]:List U4)),(w64 (c+1)),()))
     |false=>none
    |false=>some (.inl (e,b,d,(w64 (c+1)),()))
   |false=>match a.2.2.2.1 with
   |true=>match(fits ((A2 d)+(A2 ([(a.1,(a.2.1,()))]:List U4))))with
    |true=>some (.inl (e,b,(BV d ([(a.1,(a.2.1,()))]:List U4)),(w64 (c+1)),()))
    |false=>none
   |false=>some (.inl (e,b,d,(w64 (c+1)),()))
  |false=>match a.2.2.2.1 with
  |true=>match(fits ((A2 d)+(A2 ([(a.1,(a.2.1,()))]:List U4))))with
   |true=>some (.inl (e,b,(BV d ([(a.1,(a.2.1,()))]:List U4)),(w64 (c+1)),()))
   |false=>none
  |false=>some (.inl (e,b,d,(w64 (c+1)),()))
 |false=>some (.inr (.inr (.inl (e,b,d,()))))
def Gx[Lk]:(Uc×Unit)->Option (Ua):=fun(a,_)=>
 match(ilt a.1 1)with
 |true=>some (false,())
 |false=>match(ilt 64 a.1)with
 |true=>some (false,())
 |false=>match(ilt 400 (A2 a.2.1))with
 |true=>some (false,())
 |false=>match A8 FX many (a.1,a.2.1,([]:List U4),0,())with|none=>none|some r=>match r with
 |.inl (d,_)=>some (d,())
 |.inr r=>match r with
 |.inl (b,e,c,_)=>match PI (b,c,())with|none=>none|some (f,_)=>match A8 Gv many (b,e,c,f,0,0,())with|none=>none|some r=>match r with
  |.inl (g,j,h,i,_)=>some ((ieq i (w64 (g-(A2 h)))),())
  |.inr _=>none
 |.inr _=>none
def HT[Lk]:=lkk Gx
theorem Gw v:HT v=Gx v:=A0 _
def AMs[Lk]:U4->Option (Ua):=fun(a,b,_)=>
 match(ile 1 a)with
 |true=>match(ile a 64)with
  |true=>match(ile 0 b)with
   |true=>some ((ilt b a),())
   |false=>some (false,())
  |false=>some (false,())
 |false=>some (false,())
def r7[Lk]:=lkk AMs
theorem ARa v:r7 v=AMs v:=A0 _
def fS[Lk]:U4->Option ((Int×Int×Bool×Bool×Unit)):=fun(a,b,_)=>
 match r7 (a,b,())with|none=>none|some (e,_)=>match e with
 |true=>some (b,0,false,true,())
 |false=>match(ilt a 1)with
 |true=>some (0,0,false,false,())
 |false=>match(ilt 64 a)with
 |true=>some (0,0,false,false,())
 |false=>match(ilt b a)with
 |true=>some (0,0,false,false,())
 |false=>match(ile (w64 (a+(w64 (a*a)))) b)with
 |true=>some (0,0,false,false,())
 |false=>match quo? .i64 (w64 (b-a)) a with|none=>none|some c=>match rem? (w64 (b-a)) a with|none=>none|some d=>match(ieq c d)with
 |true=>some (0,0,false,false,())
 |false=>some (c,d,true,true,())
def Xo[Lk]:=lkk fS
theorem vC v:Xo v=fS v:=A0 _
def AC3[Lk]:U8->Option (U9):=fun(a,b,c,_)=>
 match r7 (a,b,())with|none=>none|some (d,_)=>match(!d)with
 |true=>some ((-1:Int),())
 |false=>match r7 (a,c,())with|none=>none|some (e,_)=>match(!e)with
 |true=>some ((-1:Int),())
 |false=>match(ieq b c)with
 |true=>some ((-1:Int),())
 |false=>some ((w64 ((w64 (a+(w64 (b*a))))+c)),())
def uG[Lk]:=lkk AC3
theorem AOp v:uG v=AC3 v:=A0 _
abbrev AGV:A1:=[AB,AP,AN,AM,AO,AQ,AL,AG]
def AGU[Lk]:(Int×Int×Int×List U5×Int×Unit)->Option ((Int×Int×Int×List U5×Int×Unit)⊕(Int×Int×List U5×Unit)⊕Unit):=fun(c,d,e,b,a,_)=>
 match(ilt a c)with
 |true=>match(fits ((A2 b)+(A2 ([([a]:List (Int))]:List U5))))with
  |true=>some (.inl (c,d,e,(BV b ([([a]:List (Int))]:List U5)),(w64 (a+1)),()))
  |false=>none
 |false=>some (.inr (.inl (d,e,b,())))
def rS[Lk]:U9->Option (Vi):=fun(a,_)=>
 match(ilt a 1)with
 |true=>some (0,([]:List U5),1,())
 |false=>match(ilt 64 a)with
 |true=>some (0,([]:List U5),1,())
 |false=>match A8 AGU many (a,0,a,([]:List U5),0,())with|none=>none|some r=>match r with
 |.inl (d,b,c,_)=>some (b,c,0,())
 |.inr _=>none
def yg[Lk]:=lkk rS
theorem AGW v:yg v=rS v:=A0 _
def ZC[Lk]:U8->Option (Ua):=fun(d,e,a,_)=>
 match Xo (d,e,())with|none=>none|some (f,c,b,g,_)=>match g with
 |true=>match(!b)with
  |true=>match(ieq f a)with
   |true=>some (true,())
   |false=>match b with
   |true=>some ((ieq c a),())
   |false=>some (false,())
  |false=>match b with
  |true=>some ((ieq c a),())
  |false=>some (false,())
 |false=>some (false,())
def ZD[Lk]:=lkk ZC
theorem pN v:ZD v=ZC v:=A0 _
abbrev AY7:Loc×Con:=(.tmp 1,.own 3 U0)
abbrev AY8:Loc×Con:=(.tmp 15,.di)
abbrev AY9:Loc×Con:=(.tmp 77,.di)
abbrev AZA:Loc×Con:=(.tmp 78,.di)
abbrev ADr:A1:=[AB,AY7,AY3,(.tmp 14,.own 3 U0),AY8,(.tmp 27,.dat .bool),(.tmp 28,.dat .bool),(.tmp 64,.dat .bool),(.tmp 67,.dat .bool),(.tmp 70,.di),(.tmp 71,.di),(.tmp 72,.dat .bool),(.tmp 75,.di),(.tmp 76,.di),AY9,AZA,(.tmp 79,.di),(.tmp 80,.dat .bool),(.tmp 83,.di),(.tmp 84,.own' 0),(.tmp 85,.di),(.tmp 86,.own' 0),(.tmp 87,.di),(.tmp 88,.di),(.tmp 89,.di),(.tmp 90,.own' 0),(.tmp 91,.di),(.tmp 92,.di),(.tmp 94,.di),(.tmp 95,.di),(.tmp 96,.dat .bool)]
abbrev ADo:BH:=[(.exit 4,[AB,AY3,(.tmp 14,.own 3 U0),(.tmp 27,.dat .bool),(.tmp 28,.dat .bool),(.tmp 64,.dat .bool),(.tmp 67,.dat .bool),(.tmp 70,.di),(.tmp 71,.di),(.tmp 72,.dat .bool),(.tmp 75,.di),(.tmp 76,.di),AY9,AZA,(.tmp 79,.di),(.tmp 80,.dat .bool),(.tmp 83,.di),(.tmp 84,.own 3 U0),(.tmp 85,.di),(.tmp 86,.own' 1),(.tmp 87,.di),(.tmp 88,.di),(.tmp 89,.di),(.tmp 90,.own' 1),(.tmp 91,.di),(.tmp 92,.di),(.tmp 94,.di),(.tmp 95,.di),(.tmp 96,.dat .bool)])]
def ADl[Lk]:V9->Option (V9⊕(Int×Int×List Int×Bool×Bool×Bool×Bool×Int×Int×Bool×Int×Int×Int×Int×Int×Bool×Int×List Int×Int×Int×Int×Int×Int×Int×Int×Int×Bool×Unit)⊕Unit):=fun(f,a,b,c,d,g,h,i,j,k,l,m,n,o,p,q,r,s,t,u,v,w,x,y,z,A,B,C,_)=>
 match(ilt d (A2 a))with
 |true=>match rem? (w64 (b+d)) (A2 a)with|none=>none|some e=>match idx a e with|none=>none|some D=>match(fits ((A2 c)+(A2 ([(A9 a (A4 e) 0)]:List (Int)))))with
  |true=>some (.inl (f,a,b,(BV c ([(A9 a (A4 e) 0)]:List (Int))),(w64 (d+1)),g,h,i,j,k,l,m,n,o,p,q,r,s,t,u,v,w,x,y,z,A,B,C,()))
  |false=>none
 |false=>some (.inr (.inl (f,b,c,g,h,i,j,k,l,m,n,o,p,q,r,s,t,a,u,v,w,x,y,z,A,B,C,())))
abbrev ADs:A1:=[AB,AY7,(.tmp 5,.dat .bool),AY3]
abbrev ADp:BH:=[(.exit 2,[AB,AY7,(.tmp 5,.dat .bool)])]
def ADm[Lk]:(Int×List Int×Bool×Int×Unit)->Option ((Int×List Int×Bool×Int×Unit)⊕(Int×List Int×Bool×Unit)⊕Unit):=fun(c,a,d,b,_)=>
 match(ilt b (A2 a))with
 |true=>match(!d)with
  |true=>match idx a b with|none=>none|some q=>match rem? (w64 (b+1)) (A2 a)with|none=>none|some f=>match idx a f with|none=>none|some s=>match rem? (w64 (b+2)) (A2 a)with|none=>none|some g=>match idx a g with|none=>none|some t=>match Xo (c,(A9 a (A4 b) 0),())with|none=>none|some (h,e,k,l,_)=>match(ile 4 (A2 a))with
   |true=>match l with
    |true=>match k with
     |true=>match(ieq (A9 a (A4 f) 0) e)with
      |true=>match uG (c,e,h,())with|none=>none|some (j,_)=>match(ieq (A9 a (A4 g) 0) j)with
       |true=>match rem? (w64 ((w64 (b+(A2 a)))-1)) (A2 a)with|none=>none|some i=>match idx a i with|none=>none|some u=>match ZD (c,(A9 a (A4 i) 0),h,())with|none=>none|some (m,_)=>match m with
        |true=>match A8 ADl many (c,a,b,([]:List (Int)),3,d,(!d),l,k,(A9 a (A4 f) 0),e,(ieq (A9 a (A4 f) 0) e),(A9 a (A4 g) 0),c,e,h,j,(ieq (A9 a (A4 g) 0) j),c,b,(A2 a),(w64 (b+(A2 a))),(w64 ((w64 (b+(A2 a)))-1)),(A2 a),i,(A9 a (A4 i) 0),h,m,())with|none=>none|some r=>match r with
         |.inl (n,o,p,v,w,x,y,z,A,B,C,D,E,F,G,H,I,J,K,L,M,N,O,P,Q,R,S,_)=>some (.inl (n,p,true,(w64 (o+1)),()))
         |.inr _=>none
        |false=>some (.inl (c,a,d,(w64 (b+1)),()))
       |false=>some (.inl (c,a,d,(w64 (b+1)),()))
      |false=>some (.inl (c,a,d,(w64 (b+1)),()))
     |false=>some (.inl (c,a,d,(w64 (b+1)),()))
    |false=>some (.inl (c,a,d,(w64 (b+1)),()))
   |false=>some (.inl (c,a,d,(w64 (b+1)),()))
  |false=>some (.inr (.inl (c,a,d,())))
 |false=>some (.inr (.inl (c,a,d,())))
abbrev ADt:A1:=[AB,AY7]
abbrev ADq:BH:=[(.ret,[AH]),(.exit 0,[AB,AY7])]
def ADn[Lk]:(Int×List Int×Unit)->Option ((Int×List Int×Unit)⊕Ua⊕(Int×List Int×Unit)⊕Unit):=fun(b,a,_)=>
 match(ilt 1 (A2 a))with
 |true=>match A8 ADm many (b,a,false,0,())with|none=>none|some r=>match r with
  |.inl (c,d,e,_)=>match(!e)with
   |true=>some (.inr (.inl (false,())))
   |false=>some (.inl (c,d,()))
  |.inr _=>none
 |false=>some (.inr (.inr (.inl (b,a,()))))
def ot[Lk]:(Int×List Int×Unit)->Option (Ua):=fun(c,b,_)=>
 match(fits ((A2 ([]:List (Int)))+(A2 b)))with
 |true=>match A8 ADn many (c,(BV ([]:List (Int)) b),())with|none=>none|some r=>match r with
  |.inl (d,_)=>some (d,())
  |.inr r=>match r with
  |.inl (e,a,_)=>match(ieq (A2 a) 1)with
   |true=>match idx a 0 with|none=>none|some g=>match r7 (e,(A9 a 0 0),())with|none=>none|some (f,_)=>some (f,())
   |false=>some (false,())
  |.inr _=>none
 |false=>none
def vA[Lk]:=lkk ot
theorem ADu v:vA v=ot v:=A0 _
abbrev xG:A1:=[AD,AI,AG]
def xF[Lk]:Uh->Option (Uh⊕U9⊕(Unit)⊕Unit):=fun(b,c,a,_)=>
 match(ilt a (A2 b))with
 |true=>match idx b a with|none=>none|some d=>match(ieq d c)with
  |true=>some (.inr (.inl (a,())))
  |false=>some (.inl (b,c,(w64 (a+1)),()))
 |false=>some (.inr (.inr (.inl ())))
def gf[Lk]:Uf->Option (U9):=fun(a,b,_)=>
 match A8 xF many (a,b,0,())with|none=>none|some r=>match r with
 |.inl (c,_)=>some (c,())
 |.inr r=>match r with
 |.inl _=>some ((-1:Int),())
 |.inr _=>none
def R2[Lk]:=lkk gf
theorem xH v:R2 v=gf v:=A0 _
abbrev wS:A1:=[AD,AX]
abbrev QG:BH:=[(.ret,[AK]),(.exit 0,[])]
def wR[Lk]:Uf->Option (Uf⊕Ua⊕(Unit)⊕Unit):=fun(a,b,_)=>
 match(ilt b (A2 a))with
 |true=>match idx a b with|none=>none|some c=>match(ilt c 0)with
  |true=>some (.inr (.inl (false,())))
  |false=>match idx a b with|none=>none|some d=>match(ilt 10000 d)with
  |true=>some (.inr (.inl (false,())))
  |false=>match Ci a 0 b with|none=>none|some e=>match idx a b with|none=>none|some f=>match R2 (e,f,())with|none=>none|some (g,_)=>match(ile 0 g)with
  |true=>some (.inr (.inl (false,())))
  |false=>some (.inl (a,(w64 (b+1)),()))
 |false=>some (.inr (.inr (.inl ())))
def gN[Lk]:Ue->Option (Ua):=fun(a,_)=>
 match(ilt 1000 (A2 a))with
 |true=>some (false,())
 |false=>match A8 wR many (a,0,())with|none=>none|some r=>match r with
 |.inl (b,_)=>some (b,())
 |.inr r=>match r with
 |.inl _=>some (true,())
 |.inr _=>none
def Ow[Lk]:=lkk gN
theorem wT v:Ow v=gN v:=A0 _
abbrev Sq:A1:=[AY,Ax]
def sO[Lk]:Uf->Option ((List Int×Bool×Unit)):=fun(a,e,_)=>
 match R2 (a,e,())with|none=>none|some (b,_)=>match Ow (a,())with|none=>none|some (f,_)=>match(!f)with
 |true=>some (([]:List (Int)),false,())
 |false=>match(ilt b 0)with
 |true=>some (([]:List (Int)),false,())
 |false=>match Ci a b (A2 a)with|none=>none|some c=>match(fits ((A2 ([]:List (Int)))+(A2 c)))with
 |true=>match Ci a 0 b with|none=>none|some d=>match(fits ((A2 (BV ([]:List (Int)) c))+(A2 d)))with
  |true=>some ((BV (BV ([]:List (Int)) c) d),true,())
  |false=>none
 |false=>none
def bh[Lk]:=lkk sO
theorem AHQ v:bh v=sO v:=A0 _
abbrev w7:BH:=[(.exit 0,[AD,AX])]
def w6[Lk]:Uh->Option (Uh⊕Uf⊕Unit):=fun(a,c,b,_)=>
 match(ilt b (A2 a))with
 |true=>match idx a b with|none=>none|some d=>some (.inl (a,(Cp c d),(w64 (b+1)),()))
 |false=>some (.inr (.inl (a,c,())))
def ga[Lk]:Ue->Option (Ue):=fun(a,_)=>
 match Ow (a,())with|none=>none|some (b,_)=>match(!b)with
 |true=>some (([]:List (Int)),())
 |false=>match(ieq (A2 a) 0)with
 |true=>some (([]:List (Int)),())
 |false=>match idx a 0 with|none=>none|some c=>match A8 w6 many (a,c,0,())with|none=>none|some r=>match r with
 |.inl (d,e,_)=>match bh (d,e,())with|none=>none|some (f,g,_)=>some (f,())
 |.inr _=>none
def X7[Lk]:=lkk ga
theorem w9 v:X7 v=ga v:=A0 _
abbrev AGe:A1:=[AZ,(.tmp 1,.dat Ud)]
abbrev yk:A1:=[AZ,(.tmp 1,.dat Ud),AG]
def yj[Lk]:(List U5×List U5×Int×Unit)->Option ((List U5×List U5×Int×Unit)⊕Ua⊕(Unit)⊕Unit):=fun(b,c,a,_)=>
 match(ilt a (A2 b))with
 |true=>match idx b a with|none=>none|some d=>match idx c a with|none=>none|some e=>match Qi (d,e,())with|none=>none|some (f,_)=>match(!f)with
  |true=>some (.inr (.inl (false,())))
  |false=>some (.inl (b,c,(w64 (a+1)),()))
 |false=>some (.inr (.inr (.inl ())))
def gz[Lk]:(List U5×List U5×Unit)->Option (Ua):=fun(a,b,_)=>
 match(!(ieq (A2 a) (A2 b)))with
 |true=>some (false,())
 |false=>match A8 yj many (a,b,0,())with|none=>none|some r=>match r with
 |.inl (c,_)=>some (c,())
 |.inr r=>match r with
 |.inl _=>some (true,())
 |.inr _=>none
def YG[Lk]:=lkk gz
theorem yl v:YG v=gz v:=A0 _
abbrev gL:A1:=[Aj]
abbrev AZB:Loc×Con:=(.tmp 3,.own 4 .bool)
abbrev AZC:Loc×Con:=(.tmp 50,.di)
abbrev AZD:Loc×Con:=(.tmp 45,.di)
abbrev wO:A1:=[AY6,AN,AYt,AZB,AW,AG,AY3,Ag,AT,(.tmp 44,.dat U6),AZD,(.tmp 46,.dat .bool),(.tmp 49,.ptr' 0 0),AZC,(.tmp 51,.dat U6),(.tmp 52,.dat .bool),(.tmp 53,.dat .bool),(.tmp 56,.dat U6),(.tmp 57,.dat U6),(.tmp 58,.own 36 U6),(.tmp 59,.dat U6),(.tmp 60,.own 36 U6),(.tmp 61,.dat .bool),(.tmp 62,.dat .bool),(.tmp 65,.dat U6),(.tmp 67,.di),(.tmp 68,.di),(.tmp 69,.dat .bool)]
abbrev wM:BH:=[(.ret,[AK]),(.exit 2,[AY6,AN,AYt,AZB,AW,AG,AY3,(.tmp 44,.dat U6),AZD,(.tmp 46,.dat .bool),(.tmp 49,.ptr' 0 0),AZC,(.tmp 51,.dat U6),(.tmp 52,.dat .bool),(.tmp 53,.dat .bool),(.tmp 56,.dat U6),(.tmp 57,.dat U6),(.tmp 58,.own 36 U6),(.tmp 59,.dat U6),(.tmp 60,.own 36 U6),(.tmp 61,.dat .bool),(.tmp 62,.dat .bool),(.tmp 65,.dat U6),(.tmp 67,.di),(.tmp 68,.di),(.tmp 69,.dat .bool)])]
def wK[Lk]:V6->Option (V6⊕Ua⊕(Int×List U5×List Bool×Int×Int×Int×List Int×Int×Bool×Int×List Int×Bool×Bool×List Int×List Int×List U5×List Int×List U5×Bool×Bool×List Int×Int×Int×Bool×Unit)⊕Unit):=fun(d,e,a,f,g,h,b,c,i,j,k,l,m,n,o,p,q,r,s,t,u,v,w,x,y,z,_)=>
 match(ilt c (A2 b))with
 |true=>match idx b c with|none=>none|some C=>match(ilt C d)with
  |true=>match idx b c with|none=>none|some A=>match idx a A with|none=>none|some D=>match(A9 a (A4 A) false)with
   |true=>some (.inr (.inl (false,())))
   |false=>match idx b c with|none=>none|some B=>match idx a B with|none=>none|some E=>some (.inl (d,e,(Bc a (A4 B) true),f,(w64 (g+1)),h,b,(w64 (c+1)),i,j,k,l,m,n,o,p,q,r,s,t,u,v,w,x,y,z,()))
  |false=>some (.inl (d,e,a,f,g,h,b,(w64 (c+1)),i,j,k,l,m,n,o,p,q,r,s,t,u,v,w,x,y,z,()))
 |false=>some (.inr (.inr (.inl (d,e,a,f,g,h,i,j,k,l,m,n,o,p,q,r,s,t,u,v,w,x,y,z,()))))
abbrev wP:A1:=[AY6,AN,AYt,AZB,AW,AG,AY3]
abbrev wN:BH:=[(.ret,[AK]),(.exit 0,[AY6,AN,AYt,AG])]
def wL[Lk]:(Int×List U5×List Bool×Int×Int×Int×Unit)->Option ((Int×List U5×List Bool×Int×Int×Int×Unit)⊕Ua⊕Vi⊕Unit):=fun(b,c,k,d,j,e,_)=>
 match(ilt e (A2 c))with
 |true=>match idx c e with|none=>none|some a=>match Ow (a,())with|none=>none|some (l,_)=>match(!l)with
  |true=>some (.inr (.inl (false,())))
  |false=>match(ieq (A2 a) 0)with
  |true=>some (.inr (.inl (false,())))
  |false=>match vA (b,a,())with|none=>none|some (f,_)=>match(!f)with
  |true=>some (.inr (.inl (false,())))
  |false=>match X7 (a,())with|none=>none|some (g,_)=>match YG (([g]:List U5),([a]:List U5),())with|none=>none|some (h,_)=>match(!h)with
  |true=>some (.inr (.inl (false,())))
  |false=>match idx a 0 with|none=>none|some i=>match(ile i d)with
  |true=>some (.inr (.inl (false,())))
  |false=>match idx a 0 with|none=>none|some m=>match A8 wK many (b,c,k,m,j,e,a,0,a,(A2 a),(ieq (A2 a) 0),b,a,f,(!f),a,g,([g]:List U5),a,([a]:List U5),h,(!h),a,i,d,(ile i d),())with|none=>none|some r=>match r with
  |.inl (n,_)=>some (.inr (.inl (n,())))
  |.inr r=>match r with
  |.inl (o,p,q,s,t,u,v,w,x,y,z,A,B,C,D,E,F,G,H,I,J,K,L,M,_)=>some (.inl (o,p,q,s,t,(w64 (u+1)),()))
  |.inr _=>none
 |false=>some (.inr (.inr (.inl (b,c,j,()))))
def gM[Lk]:(Un×Unit)->Option (Ua):=fun(a,_)=>
 match(ilt a.1 1)with
 |true=>some (false,())
 |false=>match(ilt 64 a.1)with
 |true=>some (false,())
 |false=>match(ilt a.1 (A2 a.2.1))with
 |true=>some (false,())
 |false=>match(Ca a.1&&Ca a.1&&ile a.1 a.1&&true)with
 |true=>match A8 wL many (a.1,a.2.1,(Dm (A4 a.1) false),(-1:Int),(0:Int),(0:Int),())with|none=>none|some r=>match r with
  |.inl (b,_)=>some (b,())
  |.inr r=>match r with
  |.inl (c,e,d,_)=>some ((ieq d c),())
  |.inr _=>none
 |false=>none
def X3[Lk]:=lkk gM
theorem wQ v:X3 v=gM v:=A0 _
abbrev xD:A1:=[AI,AP,AN,AYt,AG]
def xC[Lk]:(Int×Int×List U5×Int×Unit)->Option ((Int×Int×List U5×Int×Unit)⊕U9⊕(Unit)⊕Unit):=fun(c,d,b,a,_)=>
 match(ilt a (A2 b))with
 |true=>match idx b a with|none=>none|some e=>match R2 (e,c,())with|none=>none|some (f,_)=>match(ile 0 f)with
  |true=>some (.inr (.inl (a,())))
  |false=>some (.inl (c,d,b,(w64 (a+1)),()))
 |false=>some (.inr (.inr (.inl ())))
def gd[Lk]:(Un×Int×Unit)->Option (U9):=fun(a,b,_)=>
 match A8 xC many (b,a.1,a.2.1,0,())with|none=>none|some r=>match r with
 |.inl (c,_)=>some (c,())
 |.inr r=>match r with
 |.inl _=>some ((-1:Int),())
 |.inr _=>none
def Oz[Lk]:=lkk gd
theorem xE v:Oz v=gd v:=A0 _
abbrev AQH:A1:=[AZ,AE]
abbrev ABi:A1:=[Am]
abbrev AKw:A1:=[AZ,AY7,AG]
abbrev AKv:BH:=[(.exit 0,[AZ,AY7,AG])]
def AKu[Lk]:(List U5×List Int×Int×Unit)->Option ((List U5×List Int×Int×Unit)⊕(List U5×List Int×Int×Unit)⊕Unit):=fun(a,b,c,_)=>
 match(ilt c (A2 a))with
 |true=>match idx a c with|none=>none|some d=>match idx d 0 with|none=>none|some e=>match idx b 0 with|none=>none|some f=>match(ilt e (A9 b 0 0))with
  |true=>some (.inl (a,b,(w64 (c+1)),()))
  |false=>some (.inr (.inl (a,b,c,())))
 |false=>some (.inr (.inl (a,b,c,())))
def ABj[Lk]:(List U5×List Int×Unit)->Option ((List U5×Unit)):=fun(f,g,_)=>
 match X7 (g,())with|none=>none|some (h,_)=>match A8 AKu many (f,h,0,())with|none=>none|some r=>match r with
 |.inl (b,c,d,_)=>match Ci b 0 d with|none=>none|some a=>match(fits ((A2 ([]:List U5))+(A2 a)))with
  |true=>match(fits ((A2 (BV ([]:List U5) a))+(A2 ([c]:List U5))))with
   |true=>match Ci b d (A2 b)with|none=>none|some e=>match(fits ((A2 (BV (BV ([]:List U5) a) ([c]:List U5)))+(A2 e)))with
    |true=>some ((BV (BV (BV ([]:List U5) a) ([c]:List U5)) e),())
    |false=>none
   |false=>none
  |false=>none
 |.inr _=>none
def AKy[Lk]:=lkk ABj
theorem AKx v:AKy v=ABj v:=A0 _
abbrev oP:A1:=[AZ,AI]
def WA[Lk]:(List U5×Int×Unit)->Option ((List U5×Unit)):=fun(a,c,_)=>
 match Ci a 0 c with|none=>none|some b=>match(fits ((A2 ([]:List U5))+(A2 b)))with
 |true=>match Ci a (w64 (c+1)) (A2 a)with|none=>none|some d=>match(fits ((A2 (BV ([]:List U5) b))+(A2 d)))with
  |true=>some ((BV (BV ([]:List U5) b) d),())
  |false=>none
 |false=>none
def Og[Lk]:=lkk WA
theorem jZ v:Og v=WA v:=A0 _
abbrev aa:A1:=[Aj,AI,AJ]
abbrev rX:A1:=[AB,(.tmp 1,.dat Ud),AJ]
def rY[Lk]:(Un×Int×Int×Unit)->Option (Vi):=fun(a,b,c,_)=>
 match X3 ((a.1,(a.2.1,())),())with|none=>none|some (k,_)=>match(!k)with
 |true=>some (a.1,a.2.1,1,())
 |false=>match r7 (a.1,b,())with|none=>none|some (l,_)=>match(!l)with
 |true=>some (a.1,a.2.1,10,())
 |false=>match r7 (a.1,c,())with|none=>none|some (m,_)=>match(!m)with
 |true=>some (a.1,a.2.1,10,())
 |false=>match Oz ((a.1,(a.2.1,())),b,())with|none=>none|some (n,_)=>match Oz ((a.1,(a.2.1,())),c,())with|none=>none|some (o,_)=>match(ieq n o)with
 |true=>some (a.1,a.2.1,5,())
 |false=>match Oz ((a.1,(a.2.1,())),b,())with|none=>none|some (g,_)=>match Oz ((a.1,(a.2.1,())),c,())with|none=>none|some (h,_)=>match idx a.2.1 g with|none=>none|some p=>match bh (p,b,())with|none=>none|some (d,u,_)=>match idx a.2.1 h with|none=>none|some q=>match bh (q,c,())with|none=>none|some (e,v,_)=>match uG (a.1,b,c,())with|none=>none|some (f,_)=>match(fits ((A2 ([b,f]:List (Int)))+(A2 e)))with
 |true=>match uG (a.1,c,b,())with|none=>none|some (i,_)=>match(fits ((A2 (BV ([b,f]:List (Int)) e))+(A2 ([i]:List (Int)))))with
  |true=>match Ci d 1 (A2 d)with|none=>none|some j=>match(fits ((A2 (BV (BV ([b,f]:List (Int)) e) ([i]:List (Int))))+(A2 (IF 1 (A4 (A2 j)) d))))with
   |true=>match Og (a.2.1,(imax g h),())with|none=>none|some (r,_)=>match Og (r,(Cp g h),())with|none=>none|some (s,_)=>match AKy (s,(BV (BV (BV ([b,f]:List (Int)) e) ([i]:List (Int))) (IF 1 (A4 (A2 j)) d)),())with|none=>none|some (t,_)=>some (a.1,t,0,())
   |false=>none
  |false=>none
 |false=>none
def yv[Lk]:=lkk rY
theorem AGi v:yv v=rY v:=A0 _
abbrev Kv:A1:=[Aj,AY0]
abbrev vN:A1:=[AY0,AP,AN,AYt,AG]
def vM[Lk]:(List U4×Int×List U5×Int×Unit)->Option ((List U4×Int×List U5×Int×Unit)⊕U9⊕(Unit)⊕Unit):=fun(a,c,d,b,_)=>
 match(ilt b (A2 a))with
 |true=>match idx a b with|none=>none|some e=>match(ilt e.1 0)with
  |true=>some (.inr (.inl (10,())))
  |false=>match idx a b with|none=>none|some f=>match(ile c f.1)with
  |true=>some (.inr (.inl (10,())))
  |false=>match idx a b with|none=>none|some g=>match(ilt g.2.1 0)with
  |true=>some (.inr (.inl (10,())))
  |false=>match idx a b with|none=>none|some h=>match(ile c h.2.1)with
  |true=>some (.inr (.inl (10,())))
  |false=>some (.inl (a,c,d,(w64 (b+1)),()))
 |false=>some (.inr (.inr (.inl ())))
def fW[Lk]:(Un×List U4×Unit)->Option (U9):=fun(a,b,_)=>
 match X3 ((a.1,(a.2.1,())),())with|none=>none|some (c,_)=>match(!c)with
 |true=>some (1,())
 |false=>match A8 vM many (b,a.1,a.2.1,0,())with|none=>none|some r=>match r with
 |.inl (d,_)=>some (d,())
 |.inr r=>match r with
 |.inl _=>some (0,())
 |.inr _=>none
def j6[Lk]:=lkk fW
theorem vO v:j6 v=fW v:=A0 _
abbrev UL:A1:=[Aj,(.tmp 1,.own 4 .bool),AJ]
abbrev DH:List RS:=[.one,.one,.one]
abbrev AZE:Loc×Con:=(.cell 1 1,.nil U6)
abbrev yq:A1:=[AY0,AP,AN,AYt,AO,AQ,AZE,(.tmp 8,.own 4 .bool),Ah]
abbrev yp:BH:=[(.exit 0,[AP,AN,AYt,AO,AQ,AZE,(.tmp 8,.own 4 .bool)])]
def yo[Lk]:(List U4×Int×List U5×Int×List Bool×Int×Unit)->Option ((List U4×Int×List U5×Int×List Bool×Int×Unit)⊕(Int×List U5×Int×List Bool×Unit)⊕Unit):=fun(a,d,e,f,c,b,_)=>
 match(ilt b (A2 a))with
 |true=>match idx a b with|none=>none|some h=>match idx a b with|none=>none|some i=>match yv ((d,(e,())),h.1,i.2.1,())with|none=>none|some (j,k,g,_)=>match(fits ((A2 c)+(A2 ([(ieq g 0)]:List (Bool)))))with
  |true=>some (.inl (a,j,k,f,(BV c ([(ieq g 0)]:List (Bool))),(w64 (b+1)),()))
  |false=>none
 |false=>some (.inr (.inl (d,e,f,c,())))
def g8[Lk]:(Un×List U4×Unit)->Option ((Un×List Bool×Int×Unit)):=fun(a,b,_)=>
 match j6 ((a.1,(a.2.1,())),b,())with|none=>none|some (c,_)=>match(!(ieq c 0))with
 |true=>some ((a.1,(a.2.1,())),([]:List (Bool)),c,())
 |false=>match A8 yo many (b,a.1,a.2.1,0,([]:List (Bool)),0,())with|none=>none|some r=>match r with
 |.inl (d,e,g,f,_)=>some ((d,(e,())),f,0,())
 |.inr _=>none
def lP[Lk]:=lkk g8
theorem yr v:lP v=g8 v:=A0 _
def AMD[Lk]:(Int×List U4×Unit)->Option ((Un×Int×Unit)):=fun(d,e,_)=>
 match yg (d,())with|none=>none|some (f,g,a,_)=>match(!(ieq a 0))with
 |true=>some ((0,(([]:List U5),())),a,())
 |false=>match lP ((f,(g,())),e,())with|none=>none|some (b,h,c,_)=>match(!(ieq c 0))with
 |true=>some ((0,(([]:List U5),())),c,())
 |false=>some ((b.1,(b.2.1,())),0,())
def ATz[Lk]:=lkk AMD
theorem AQv v:ATz v=AMD v:=A0 _
abbrev u7:A1:=[AI,AP,AN,AY4,AYz,AY3]
def u6[Lk]:(Int×Int×List U2×List U4×Int×Unit)->Option ((Int×Int×List U2×List U4×Int×Unit)⊕Vf⊕Unit):=fun(d,e,a,c,b,_)=>
 match(ilt b (A2 a))with
 |true=>match idx a b with|none=>none|some h=>match h.2.2.2.1 with
  |true=>match idx a b with|none=>none|some i=>match(ile d i.2.2.1)with
   |true=>match idx a b with|none=>none|some f=>match idx a b with|none=>none|some g=>match(fits ((A2 c)+(A2 ([(f.1,(g.2.1,()))]:List U4))))with
    |true=>some (.inl (d,e,a,(BV c ([(f.1,(g.2.1,()))]:List U4)),(w64 (b+1)),()))
    |false=>none
   |false=>some (.inl (d,e,a,c,(w64 (b+1)),()))
  |false=>some (.inl (d,e,a,c,(w64 (b+1)),()))
 |false=>some (.inr (.inl (c,())))
def fQ[Lk]:(Uc×Int×Unit)->Option (Vf):=fun(a,b,_)=>
 match A8 u6 many (b,a.1,a.2.1,([]:List U4),0,())with|none=>none|some r=>match r with
 |.inl (c,_)=>some (c,())
 |.inr _=>none
def ju[Lk]:=lkk fQ
theorem u9 v:ju v=fQ v:=A0 _
def bl[Lk]:(Uc×Int×Unit)->Option ((Un×Int×Unit)):=fun(a,c,_)=>
 match HT ((a.1,(a.2.1,())),())with|none=>none|some (d,_)=>match(!d)with
 |true=>some ((0,(([]:List U5),())),1,())
 |false=>match ju ((a.1,(a.2.1,())),c,())with|none=>none|some (e,_)=>match ATz (a.1,e,())with|none=>none|some (b,f,_)=>some ((b.1,(b.2.1,())),f,())
def bn[Lk]:=lkk bl
theorem sQ v:bn v=bl v:=A0 _
abbrev AZF:Loc×Con:=(.tmp 0,.dat V1)
abbrev tT:A1:=[AZF,AI]
def tU[Lk]:Uf->Option (U9):=fun(a,b,_)=>
 match(ilt b 0)with
 |true=>some (0,())
 |false=>match(ieq (A2 a) 0)with
 |true=>some (0,())
 |false=>match rem? b (A2 a)with|none=>none|some c=>match idx a c with|none=>none|some d=>some (d,())
def AAY[Lk]:=lkk tU
theorem AIO v:AAY v=tU v:=A0 _
def AJI[Lk]:U9->Option (U9):=fun(b,_)=>
 match(ieq b 0)with
 |true=>some (32,())
 |false=>match shr? .u32 (IntKind.wrap .u32 ((IntKind.wrap .u32 ((BitVec.ofInt (IntKind.bits .u32) b &&& BitVec.ofInt (IntKind.bits .u32) (IntKind.wrap .u32 (0-b))).toNat))*125613361)) 27 with|none=>none|some a=>match(ile 0 a&&(ilt a 32&&ilt a (A2 AHM)))with
 |true=>some ((w64 (A9 AHM (A4 a) 0)),())
 |false=>none
def ATE[Lk]:=lkk AJI
theorem APH v:ATE v=AJI v:=A0 _
def iy[Lk]:U9->Option (U9):=fun(a,_)=>
 match ATE (a,())with|none=>none|some (b,_)=>some ((Cp (w64 (b+1)) 8),())
def nh[Lk]:=lkk iy
theorem AAk v:nh v=iy v:=A0 _
def oi[Lk]:U9->Option (Ua):=fun(a,_)=>
 match(ile 1 a)with
 |true=>some ((ile a 8),())
 |false=>some (false,())
def uk[Lk]:=lkk oi
theorem ADc v:uk v=oi v:=A0 _
abbrev Pc:A1:=[AD,(.tmp 1,.clo 129 [])]
abbrev bN:A1:=[AD,(.tmp 1,.clo 129 []),AU,AT]
def bM[Lk]:Uh->Option (Uh⊕U9⊕(Unit)⊕Unit):=fun(b,c,a,_)=>
 match(ilt a c)with
 |true=>match idx b a with|none=>none|some d=>match uk (d,())with|none=>none|some (e,_)=>match(!e)with
  |true=>some (.inr (.inl (a,())))
  |false=>some (.inl (b,c,(w64 (a+1)),()))
 |false=>some (.inr (.inr (.inl ())))
def Pd[Lk]:Ue->Option (U9):=fun(a,_)=>
 match A8 bM many (a,(A2 a),0,())with|none=>none|some r=>match r with
 |.inl (b,_)=>some (b,())
 |.inr r=>match r with
 |.inl _=>some ((-1:Int),())
 |.inr _=>none
def Nw[Lk]:=lkk Pd
theorem bO v:Nw v=Pd v:=A0 _
abbrev AZG:Loc×Con:=(.tmp 1,.dat V1)
abbrev WB:A1:=[AD,AZG]
abbrev jn:A1:=[AZG,AY2,(.tmp 8,.dat U6),Ah,Ad]
abbrev RW:BH:=[(.exit 0,[AY2])]
def jm[Lk]:V3->Option (V3⊕Ue⊕Unit):=fun(c,a,d,e,b,_)=>
 match(ilt b e)with
 |true=>match idx d b with|none=>none|some f=>match(ilt f 0)with
  |true=>match(fits ((A2 a)+(A2 ([1]:List (Int)))))with
   |true=>some (.inl (c,(BV a ([1]:List (Int))),d,e,(w64 (b+1)),()))
   |false=>none
  |false=>match AAY (c,f,())with|none=>none|some (h,_)=>match nh (h,())with|none=>none|some (g,_)=>match(fits ((A2 a)+(A2 ([g]:List (Int)))))with
  |true=>some (.inl (c,(BV a ([g]:List (Int))),d,e,(w64 (b+1)),()))
  |false=>none
 |false=>some (.inr (.inl (a,())))
def WC[Lk]:V2->Option (Ue):=fun(a,b,_)=>
 match A8 jm many (b,([]:List (Int)),a,(A2 a),0,())with|none=>none|some r=>match r with
 |.inl (c,_)=>some (c,())
 |.inr _=>none
def Te[Lk]:=lkk WC
theorem jo v:Te v=WC v:=A0 _
def AOm[Lk]:Uf->Option (U9):=fun(a,b,_)=>
 match(ilt b 0)with
 |true=>some (0,())
 |false=>match(ieq (A2 a) 0)with
 |true=>some (0,())
 |false=>match rem? b (A2 a)with|none=>none|some c=>match idx a c with|none=>none|some d=>some (d,())
def AUe[Lk]:=lkk AOm
theorem ASV v:AUe v=AOm v:=A0 _
abbrev ASP:A1:=[AA,AI]
def ACz[Lk]:U4->Option (U9):=fun(b,a,_)=>
 match(ilt a 0)with
 |true=>some (0,())
 |false=>match(ilt 31 a)with
 |true=>some (0,())
 |false=>match shr? .u32 b (IntKind.wrap .u64 a)with|none=>none|some c=>some ((IntKind.wrap .u32 ((BitVec.ofInt (IntKind.bits .u32) c &&& BitVec.ofInt (IntKind.bits .u32) 1).toNat)),())
def AOe[Lk]:=lkk ACz
theorem AOd v:AOe v=ACz v:=A0 _
abbrev sD:A1:=[AA,AX]
def sC[Lk]:U4->Option (U4⊕U9⊕Unit):=fun(b,a,_)=>
 match(ilt a 8)with
 |true=>match AOe (b,(w64 (a-1)),())with|none=>none|some (c,_)=>match(ieq c 0)with
  |true=>some (.inl (b,(w64 (a+1)),()))
  |false=>some (.inr (.inl (a,())))
 |false=>some (.inr (.inl (a,())))
def bV[Lk]:U9->Option (U9):=fun(a,_)=>
 match A8 sC many (a,1,())with|none=>none|some r=>match r with
 |.inl (b,_)=>some (b,())
 |.inr _=>none
def bW[Lk]:=lkk bV
theorem sE v:bW v=bV v:=A0 _
abbrev mH:A1:=[AD,AZG,AY2,AY3]
def mG[Lk]:(List Int×List Int×List Int×Int×Unit)->Option ((List Int×List Int×List Int×Int×Unit)⊕Ue⊕Unit):=fun(a,d,b,c,_)=>
 match(ilt c (A2 a))with
 |true=>match idx a c with|none=>none|some f=>match(ile 0 f)with
  |true=>match idx a c with|none=>none|some g=>match AUe (d,g,())with|none=>none|some (h,_)=>match bW (h,())with|none=>none|some (e,_)=>match(fits ((A2 b)+(A2 ([e]:List (Int)))))with
   |true=>some (.inl (a,d,(BV b ([e]:List (Int))),(w64 (c+1)),()))
   |false=>none
  |false=>match(fits ((A2 b)+(A2 ([1]:List (Int)))))with
  |true=>some (.inl (a,d,(BV b ([1]:List (Int))),(w64 (c+1)),()))
  |false=>none
 |false=>some (.inr (.inl (b,())))
def Wp[Lk]:V2->Option (Ue):=fun(a,b,_)=>
 match A8 mG many (a,b,([]:List (Int)),0,())with|none=>none|some r=>match r with
 |.inl (c,_)=>some (c,())
 |.inr _=>none
def VB[Lk]:=lkk Wp
theorem mI v:VB v=Wp v:=A0 _
abbrev jC:A1:=[AY,AY7,(.tmp 2,.own 36 U6),AX]
abbrev Vp:List RS:=[.agg 3,.one]
abbrev AZH:Loc×Con:=(.cell 1 2,.own 36 U6)
abbrev AZI:Loc×Con:=(.cell 1 1,.own 3 U0)
abbrev AZJ:Loc×Con:=(.cell 1 0,.own 3 U0)
abbrev AZK:Loc×Con:=(.cell 0 2,.nil U6)
abbrev AZL:Loc×Con:=(.cell 0 1,.nil U0)
abbrev AZM:Loc×Con:=(.tmp 10,.own 3 U0)
abbrev AZN:Loc×Con:=(.cell 0 0,.nil U0)
abbrev AZO:Loc×Con:=(.tmp 4,.box 3)
abbrev AZP:Loc×Con:=(.tmp 8,.box 3)
abbrev AAw:A1:=[AE,AZO,AZN,AZL,AZK,AY3,AZP,AZJ,AZI,AZH,Ah,AZM,Ae,AR]
abbrev AAs:BH:=[(.exit 6,[AE,AZO,AZN,AZL,AZK,AY3,AZP,AZJ,AZI,AZH,Ah,AZM,Ae,AR])]
def AAo[Lk]:Ve->Option (Ve⊕Ve⊕Unit):=fun(a,b,f,g,h,c,i,d,e,_)=>
 match rem? (w64 (c+e)) b with|none=>none|some j=>match idx a j with|none=>none|some k=>match(ile k d)with
 |true=>some (.inl (a,b,f,g,h,c,i,d,(w64 (e+1)),()))
 |false=>some (.inr (.inl (a,b,f,g,h,c,i,d,e,())))
abbrev AAx:A1:=[AE,AZO,AZN,AZL,AZK,AY3,AZP,AZJ,AZI,AZH,Ah,AZM,Ae]
abbrev AAt:BH:=[(.exit 4,[AE,AZO,AZN,AZL,AZK,AY3,AZP,AZJ,AZI,AZH,Ah,AZM])]
def AAp[Lk]:(List Int×Int×List Int×List Int×List U5×Int×List Int×Int×Unit)->Option ((List Int×Int×List Int×List Int×List U5×Int×List Int×Int×Unit)⊕(List Int×Int×List Int×List Int×List U5×Int×List Int×Unit)⊕Unit):=fun(a,c,d,e,f,b,g,h,_)=>
 match idx a b with|none=>none|some m=>match(ilt h m)with
 |true=>match A8 AAo many (a,c,d,e,f,b,g,h,1,())with|none=>none|some r=>match r with
  |.inl (n,i,o,p,q,j,k,s,t,_)=>match rem? (w64 (j+t)) i with|none=>none|some l=>match(fits ((A2 k)+(A2 ([l]:List (Int)))))with
   |true=>some (.inl (n,i,o,p,q,j,(BV k ([l]:List (Int))),(w64 (s+1)),()))
   |false=>none
  |.inr _=>none
 |false=>some (.inr (.inl (a,c,d,e,f,b,g,())))
abbrev AAy:A1:=[AE,AZO,AZN,AZL,AZK,AY3,AZP,AZJ,AZI,AZH,Ah]
abbrev AAu:BH:=[(.exit 2,[AZO,AZN,AZL,AZK,AZP,AZJ,AZI,AZH])]
def AAq[Lk]:(List Int×Int×List Int×List Int×List U5×Int×Unit)->Option ((List Int×Int×List Int×List Int×List U5×Int×Unit)⊕(List Int×List Int×List U5×Unit)⊕Unit):=fun(h,a,b,c,d,e,_)=>
 match(ilt e a)with
 |true=>match A8 AAp many (h,a,b,c,d,e,([]:List (Int)),0,())with|none=>none|some r=>match r with
  |.inl (i,j,k,l,f,m,g,_)=>match(fits ((A2 f)+(A2 ([g]:List U5))))with
   |true=>some (.inl (i,j,k,l,(BV f ([g]:List U5)),(w64 (m+1)),()))
   |false=>none
  |.inr _=>none
 |false=>some (.inr (.inl (b,c,d,())))
abbrev AAz:A1:=[AD,AE,AZO,AZN,AZL,AZK,AY3,AU]
abbrev AAv:BH:=[(.ret,[AZO,AZN,AZL,AZK,AG]),(.exit 0,[AD,AE,AZO,AZN,AZL,AZK,AY3])]
def AAr[Lk]:V0->Option (V0⊕U9⊕(List Int×List Int×Int×Unit)⊕Unit):=fun(d,a,c,b,_)=>
 match(ilt b c)with
 |true=>match idx a b with|none=>none|some e=>match(ilt e 1)with
  |true=>some (.inr (.inl (1,())))
  |false=>match idx a b with|none=>none|some f=>match(ilt 8 f)with
  |true=>some (.inr (.inl (1,())))
  |false=>some (.inl (d,a,c,(w64 (b+1)),()))
 |false=>some (.inr (.inr (.inl (d,a,c,()))))
def jD[Lk]:V2->Option ((List Int×List Int×List U5×Int×Unit)):=fun(a,c,_)=>
 match Ow (a,())with|none=>none|some (e,_)=>match(!e)with
 |true=>some (([]:List (Int)),([]:List (Int)),([]:List U5),1,())
 |false=>match(ieq (A2 a) 0)with
 |true=>some (([]:List (Int)),([]:List (Int)),([]:List U5),1,())
 |false=>match(!(ieq (A2 c) (A2 a)))with
 |true=>some (([]:List (Int)),([]:List (Int)),([]:List U5),1,())
 |false=>match A8 AAr many (a,c,(A2 a),0,())with|none=>none|some r=>match r with
 |.inl (f,_)=>some (([]:List (Int)),([]:List (Int)),([]:List U5),f,())
 |.inr r=>match r with
 |.inl (d,b,g,_)=>match(fits ((A2 ([]:List (Int)))+(A2 d)))with
  |true=>match(fits ((A2 ([]:List (Int)))+(A2 b)))with
   |true=>match A8 AAq many (b,g,(BV ([]:List (Int)) d),(BV ([]:List (Int)) b),([]:List U5),0,())with|none=>none|some r=>match r with
    |.inl (h,i,j,_)=>some (h,i,j,0,())
    |.inr _=>none
   |false=>none
  |false=>none
 |.inr _=>none
def nv[Lk]:=lkk jD
theorem AA0 v:nv v=jD v:=A0 _
abbrev AKP:A1:=[(.tmp 0,.dat Ux),(.tmp 1,.dat Ux)]
def po[Lk]:(Uj×Uj×Unit)->Option (Ua):=fun(a,b,_)=>
 match Qi (a.1,b.1,())with|none=>none|some (c,_)=>match c with
 |true=>match Qi (a.2.1,b.2.1,())with|none=>none|some (d,_)=>match d with
  |true=>match YG (a.2.2.1,b.2.2.1,())with|none=>none|some (e,_)=>some (e,())
  |false=>some (false,())
 |false=>some (false,())
def v9[Lk]:=lkk po
theorem AEZ v:v9 v=po v:=A0 _
abbrev AZQ:Loc×Con:=(.tmp 1,.clo 191 [(1,0)])
abbrev AZR:Loc×Con:=(.cell 1 0,.map U3 U0)
abbrev Sh:A1:=[AYy,(.cap 1 0,.box 1),AZR,AZQ]
abbrev AZS:Loc×Con:=(.obj 0,.own 88 U3)
abbrev AZT:Loc×Con:=(.obj 2,.map' 2)
abbrev mC:A1:=[AZS,At,AZR,AZT,AB]
abbrev eP:A1:=[AZS,At,AZR,AZT,Ao,AZQ,AU,AT]
abbrev eO:BH:=[(.ret,[AZS,At,AZR,AZT,AW]),(.exit 0,[AZS,At,AZR,AZT])]
def EO[Lk]:(List U4×List Vg×Int×Int×Unit)->Option ((List U4×List Vg×Int×Int×Unit)⊕(List U4×List Vg×Int×Unit)⊕(List U4×List Vg×Unit)⊕Unit):=fun(a,c,d,b,_)=>
 match(ilt b d)with
 |true=>match idx a b with|none=>none|some e=>match(ieq ((A_ c ((A9 a (A4 b) (0,(0,()))).1,((A9 a (A4 b) (0,(0,()))).2.1,()))).getD 0) 0)with
  |true=>some (.inr (.inl (a,c,b,())))
  |false=>some (.inl (a,c,d,(w64 (b+1)),()))
 |false=>some (.inr (.inr (.inl (a,c,()))))
def MT[Lk]:(List U4×List Vg×Unit)->Option ((List U4×List Vg×Int×Unit)):=fun(a,b,_)=>
 match A8 EO many (a,b,(A2 a),0,())with|none=>none|some r=>match r with
 |.inl (c,d,e,_)=>some (c,d,e,())
 |.inr r=>match r with
 |.inl (f,g,_)=>some (f,g,(-1:Int),())
 |.inr _=>none
def Qq[Lk]:=lkk MT
theorem Pg v:Qq v=MT v:=A0 _
abbrev zQ:A1:=[(.tmp 0,.dat U3),(.tmp 1,.dat U3)]
def MX[Lk]:(U4×U4×Unit)->Option (U9):=fun(a,b,_)=>
 match EJ (a.1,b.1,())with|none=>none|some (c,_)=>match EJ (a.2.1,b.2.1,())with|none=>none|some (d,_)=>match orI (([c,d]:List (Int)),())with|none=>none|some (e,_)=>some (e,())
def Bj[Lk]:=lkk MX
theorem N3 v:Bj v=MX v:=A0 _
abbrev AZU:Loc×Con:=(.tmp 3,.clo 108 [])
abbrev UW:A1:=[AYy,AI,AJ,AZU]
abbrev JZ:A1:=[AZS]
abbrev ARX:A1:=[AZS,Ao,AI,AJ,AZU,AT,Ah]
abbrev ARW:BH:=[(.exit 2,[AZS,Ao,AI,AJ,AZU,AT])]
abbrev ARY:A1:=[AZS,Ao,AI,AJ,AZU,AT]
abbrev ln:BH:=[(.exit 0,[AZS])]
def AUE[Lk]:=Qj ((0,(0,())):U4) Bj tLt
def AVN[Lk]:=zH ((0,(0,())):U4) Bj tLt
theorem ARZ v:AVN v=AUE v:=A0 _
abbrev AZV:Loc×Con:=(.tmp 4,.clo 108 [])
abbrev KB:A1:=[AYy,AI,AJ,AX,AZV]
abbrev AKE:A1:=[AZS,Ao,AJ,AX,AZV,Ad]
abbrev AKD:BH:=[(.exit 0,[AZS]),(.ret,[AZS])]
def APt[Lk]:=Lz ((0,(0,())):U4) Bj tLt
def ASo[Lk]:=WL ((0,(0,())):U4) Bj tLt
theorem AKF v:ASo v=APt v:=A0 _
abbrev ANF:A1:=[AZS,Ao,AZU,AT,Ah,AR]
abbrev AND:BH:=[(.exit 2,[AZS])]
abbrev ANG:A1:=[AZS,Ao,AZU,AT,Ah,Ad,Ae]
abbrev ANE:BH:=[(.exit 0,[AZS,Ao,AZU,AT,Ah,Ad])]
def ARj[Lk]:=MW ((0,(0,())):U4) Bj tLt
def AS2[Lk]:=bX ((0,(0,())):U4) Bj tLt
theorem ANH v:AS2 v=ARj v:=A0 _
abbrev AIp:A1:=[AZS,Ao,AI,AT,(.tmp 9,.box 1),Aq,Ar,Ae]
def AOa[Lk]:=Js ((0,(0,())):U4) Bj tLt
def AOc[Lk]:=Q_ ((0,(0,())):U4) Bj tLt
theorem AIq v:AOc v=AOa v:=A0 _
abbrev AFq:A1:=[AYy,AI,AJ,As,AQ,AZV]
abbrev AFp:A1:=[AZS,At,AQ,AB,AI]
def AFr[Lk]:=G3 ((0,(0,())):U4) Bj tLt
def AB8[Lk]:=IV ((0,(0,())):U4) Bj tLt
theorem yI v:AB8 v=AFr v:=A0 _
abbrev AGC:A1:=[AYy,AI,AJ,AX,Au,AQ,(.tmp 5,.clo 108 [])]
abbrev gq:A1:=[AZS,At,AQ,AB]
def AGD[Lk]:=G6 ((0,(0,())):U4) Bj tLt
def ACL[Lk]:=IX ((0,(0,())):U4) Bj tLt
theorem yY v:ACL v=AGD v:=A0 _
abbrev AGO:A1:=[AYy,AI,Av,AQ,AZU]
def AGP[Lk]:=G7 ((0,(0,())):U4) Bj tLt
def ACQ[Lk]:=IY ((0,(0,())):U4) Bj tLt
theorem yf v:ACQ v=AGP v:=A0 _
abbrev ALR:A1:=[AZS,AB,AI]
def ALS[Lk]:=JL ((0,(0,())):U4) Bj tLt
def ALU[Lk]:=QM ((0,(0,())):U4) Bj tLt
theorem AFB v:ALU v=ALS v:=A0 _
abbrev AP9:A1:=[AZS,Ao,AT,Ah]
def ATP[Lk]:=QH ((0,(0,())):U4) Bj tLt
def AU7[Lk]:=wU ((0,(0,())):U4) Bj tLt
theorem AQA v:AU7 v=ATP v:=A0 _
abbrev xi:A1:=[AZS,AF]
abbrev qz:A1:=[AZS,Ao,AI,AJ,AZU,Ah,Ad,AR]
abbrev qv:BH:=[(.exit 6,[AZS,Ao,AI,AJ,AZU,Ah,Ad])]
abbrev q7:A1:=[AZS,Ao,AI,AJ,AZU,Ah,Ad,Ae]
abbrev qw:BH:=[(.exit 4,[AZS,Ao,AI,AJ,AZU,Ah,Ad])]
abbrev Wd:A1:=[AZS,Ao,AI,AJ,AZU,Ah,Ad]
abbrev qx:BH:=[(.exit 2,[AZS,Ao,AI,AJ,AZU,Ah,Ad])]
abbrev qy:BH:=[(.ret,[AZS,Aw]),(.exit 0,[AZS])]
def xj[Lk]:=FZ ((0,(0,())):U4) Bj tLt
def q9[Lk]:=JO ((0,(0,())):U4) Bj tLt
theorem q8 v:q9 v=xj v:=A0 _
abbrev AFZ:A1:=[AZS,AB]
abbrev QU:A1:=[AZS,Ao,AI,AZV,Ae,AR]
abbrev yA:BH:=[(.exit 4,[AZS,Ao,AI,AZV,Ae,AR])]
abbrev yB:BH:=[(.exit 2,[AZS,Ao,AI,AZV,Ae,AR])]
abbrev yC:BH:=[(.exit 0,[AZS,Ae])]
def AFa[Lk]:=G2 ((0,(0,())):U4) Bj tLt
def AB4[Lk]:=L7 ((0,(0,())):U4) Bj tLt
theorem yD v:AB4 v=AFa v:=A0 _
abbrev AQo:A1:=[AZS,AB,Ax]
abbrev Ni:A1:=[AZS,Ao,AI,AZV,AR,AS]
abbrev ALz:BH:=[(.exit 8,[AZS,Ao,AI,AZV,AR,AS])]
abbrev AL0:BH:=[(.exit 6,[AZS,Ao,AI,AZV,AR,AS])]
abbrev AL1:BH:=[(.exit 4,[AZS,Ao,AI,AS])]
abbrev AL2:BH:=[(.exit 2,[AZS,Ao,AI,AZV,AR,AS])]
abbrev AL3:BH:=[(.exit 0,[AZS,Ao,AI,AZV,AR,AS])]
def AQp[Lk]:=L6 ((0,(0,())):U4) Bj tLt
def ASu[Lk]:=R5 ((0,(0,())):U4) Bj tLt
theorem AL4 v:ASu v=AQp v:=A0 _
abbrev AB0:A1:=[AZS,Ao,AI,AJ,AX,AZV,Az,Ay]
abbrev ABz:BH:=[(.ret,[AZS])]
def ABy[Lk]:=KD ((0,(0,())):U4) Bj tLt
def ATj[Lk]:=QN ((0,(0,())):U4) Bj tLt
def Z9[Lk]:=JN ((0,(0,())):U4) Bj tLt
def AQg[Lk]:=xW ((0,(0,())):U4) Bj tLt
theorem AQf v:AQg v=Z9 100 v:=A0 _
abbrev APi:A1:=[AYy,(.tmp 1,.clo 108 [])]
def APj[Lk]:=Lx ((0,(0,())):U4) Bj tLt
def ABY[Lk]:=fh ((0,(0,())):U4) Bj tLt
theorem AJy v:ABY v=APj v:=A0 _
def jb[Lk]:U9->Option (Ua):=fun(a,_)=>
 some ((ieq a (w64 (IntKind.wrap .u16 a))),())
def Yi[Lk]:=lkk jb
theorem oU v:Yi v=jb v:=A0 _
def Yg[Lk]:U9->Option (Ua):=fun(a,_)=>
 match(ile 1 a)with
 |true=>some ((ile a 4),())
 |false=>some (false,())
def TZ[Lk]:=lkk Yg
theorem fE v:TZ v=Yg v:=A0 _
abbrev Sg:A1:=[AYv,(.tmp 1,.clo 160 [])]
abbrev eN:A1:=[AYv,(.tmp 1,.clo 160 []),AU,AT]
def FK[Lk]:(List U4×Int×Int×Unit)->Option ((List U4×Int×Int×Unit)⊕U9⊕(Unit)⊕Unit):=fun(b,c,a,_)=>
 match(ilt a c)with
 |true=>match idx b a with|none=>none|some d=>match Yi (d.1,())with|none=>none|some (e,_)=>match(!e)with
  |true=>some (.inr (.inl (a,())))
  |false=>match Yi (d.2.1,())with|none=>none|some (f,_)=>match(!f)with
  |true=>some (.inr (.inl (a,())))
  |false=>some (.inl (b,c,(w64 (a+1)),()))
 |false=>some (.inr (.inr (.inl ())))
def MS[Lk]:Vf->Option (U9):=fun(a,_)=>
 match A8 FK many (a,(A2 a),0,())with|none=>none|some r=>match r with
 |.inl (b,_)=>some (b,())
 |.inr r=>match r with
 |.inl _=>some ((-1:Int),())
 |.inr _=>none
def Qp[Lk]:=lkk MS
theorem Pf v:Qp v=MS v:=A0 _
def Kk[Lk]:Vf->Option (Ua):=fun(a,_)=>
 match Qp (a,())with|none=>none|some (b,_)=>some ((ile 0 b),())
def Fu[Lk]:=lkk Kk
theorem OI v:Fu v=Kk v:=A0 _
abbrev Si:A1:=[(.tmp 0,.dat (.slice Vm)),(.tmp 1,.clo 163 [])]
abbrev eQ:A1:=[(.tmp 0,.dat (.slice Vm)),(.tmp 1,.clo 163 []),AU,AT]
def FL[Lk]:(List U8×Int×Int×Unit)->Option ((List U8×Int×Int×Unit)⊕U9⊕(Unit)⊕Unit):=fun(c,d,a,_)=>
 match(ilt a d)with
 |true=>match idx c a with|none=>none|some b=>match TZ (b.1,())with|none=>none|some (e,_)=>match(!e)with
  |true=>some (.inr (.inl (a,())))
  |false=>match Yi (b.2.1,())with|none=>none|some (f,_)=>match(!f)with
  |true=>some (.inr (.inl (a,())))
  |false=>match Yi (b.2.2.1,())with|none=>none|some (g,_)=>match(!g)with
  |true=>some (.inr (.inl (a,())))
  |false=>some (.inl (c,d,(w64 (a+1)),()))
 |false=>some (.inr (.inr (.inl ())))
def MU[Lk]:(List U8×Unit)->Option (U9):=fun(a,_)=>
 match A8 FL many (a,(A2 a),0,())with|none=>none|some r=>match r with
 |.inl (b,_)=>some (b,())
 |.inr r=>match r with
 |.inl _=>some ((-1:Int),())
 |.inr _=>none
def Qr[Lk]:=lkk MU
theorem Ph v:Qr v=MU v:=A0 _
def Kl[Lk]:(List U8×Unit)->Option (Ua):=fun(a,_)=>
 match Qr (a,())with|none=>none|some (b,_)=>some ((ile 0 b),())
def KW[Lk]:=lkk Kl
theorem OJ v:KW v=Kl v:=A0 _
abbrev oN:A1:=[(.tmp 0,.dat Us)]
def Yc[Lk]:(Uo×Unit)->Option (Ua):=fun(a,_)=>
 match(ieq a.1 1)with
 |true=>match(ieq (A2 a.2.2.1) 0)with
  |true=>match(ile (A2 a.2.1) 60)with
   |true=>match Fu (a.2.1,())with|none=>none|some (b,_)=>some ((!b),())
   |false=>some (false,())
  |false=>some (false,())
 |false=>match(ieq a.1 2)with
 |true=>match(ieq (A2 a.2.2.1) 0)with
  |true=>match(ile (A2 a.2.1) 60)with
   |true=>match Fu (a.2.1,())with|none=>none|some (c,_)=>some ((!c),())
   |false=>some (false,())
  |false=>some (false,())
 |false=>match(ieq a.1 3)with
 |true=>match(ieq (A2 a.2.1) 0)with
  |true=>match(ile (A2 a.2.2.1) 60)with
   |true=>match KW (a.2.2.1,())with|none=>none|some (d,_)=>some ((!d),())
   |false=>some (false,())
  |false=>some (false,())
 |false=>some (false,())
def jX[Lk]:=lkk Yc
theorem fC v:jX v=Yc v:=A0 _
abbrev AOq:A1:=[(.tmp 0,.dat Vm)]
def dC[Lk]:(U8×Unit)->Option (Ue):=fun(a,_)=>
 match(ieq a.1 1)with
 |true=>some (([a.2.1,a.2.2.1]:List (Int)),())
 |false=>match(ieq a.1 2)with
 |true=>some (([a.2.1]:List (Int)),())
 |false=>match(ieq a.1 3)with
 |true=>some (([a.2.1]:List (Int)),())
 |false=>some (([]:List (Int)),())
def n7[Lk]:=lkk dC
theorem jH v:n7 v=dC v:=A0 _
abbrev AZW:Loc×Con:=(.tmp 25,.di)
abbrev AOk:A1:=[AYw,(.tmp 24,.dat (.slice Vm)),AZW,Ac]
abbrev AOi:BH:=[(.exit 2,[AYw])]
def TM[Lk]:(List Int×List U8×Int×Int×Unit)->Option ((List Int×List U8×Int×Int×Unit)⊕Ue⊕Unit):=fun(a,d,e,b,_)=>
 match(ilt b e)with
 |true=>match idx d b with|none=>none|some c=>match n7 ((c.1,(c.2.1,(c.2.2.1,()))),())with|none=>none|some (f,_)=>match(fits ((A2 a)+(A2 f)))with
  |true=>some (.inl ((BV a f),d,e,(w64 (b+1)),()))
  |false=>none
 |false=>some (.inr (.inl (a,())))
abbrev AZX:Loc×Con:=(.tmp 1,.box 3)
abbrev AOl:A1:=[AZX,AN,(.cell 0 1,.dat V4),(.cell 0 2,.dat (.slice Vm)),AYw,(.tmp 9,.dat V4),Ad,Ae]
abbrev AOj:BH:=[(.exit 0,[AZX,AN,(.cell 0 1,.dat V4),(.cell 0 2,.dat (.slice Vm)),AYw])]
def OU[Lk]:(Int×List U4×List U8×List Int×List U4×Int×Int×Unit)->Option ((Int×List U4×List U8×List Int×List U4×Int×Int×Unit)⊕(Int×List U4×List U8×List Int×Unit)⊕Unit):=fun(d,e,f,b,g,h,c,_)=>
 match(ilt c h)with
 |true=>match idx g c with|none=>none|some a=>match(fits ((A2 b)+(A2 ([a.1,a.2.1]:List (Int)))))with
  |true=>some (.inl (d,e,f,(BV b ([a.1,a.2.1]:List (Int))),g,h,(w64 (c+1)),()))
  |false=>none
 |false=>some (.inr (.inl (d,e,f,b,())))
def nx[Lk]:(Uo×Unit)->Option (Ue):=fun(a,_)=>
 match A8 OU many (a.1,a.2.1,a.2.2.1,([]:List (Int)),a.2.1,(A2 a.2.1),0,())with|none=>none|some r=>match r with
 |.inl (e,f,b,c,_)=>match A8 TM many (c,b,(A2 b),0,())with|none=>none|some r=>match r with
  |.inl (d,_)=>some (d,())
  |.inr _=>none
 |.inr _=>none
def AC1[Lk]:=lkk nx
theorem uD v:AC1 v=nx v:=A0 _
def mr[Lk]:U9->Option (Ua):=fun(a,_)=>
 match(ile 0 a)with
 |true=>some ((ilt a 65536),())
 |false=>some (false,())
def tD[Lk]:=lkk mr
theorem tC v:tD v=mr v:=A0 _
abbrev ANu:A1:=[(.tmp 0,.dat U3)]
abbrev AUW:A1:=[AA,Ax]
def z6[Lk]:(U4×Unit)->Option ((Int×Bool×Unit)):=fun(a,_)=>
 match tD (a.1,())with|none=>none|some (b,_)=>match(!b)with
 |true=>some (0,false,())
 |false=>match tD (a.2.1,())with|none=>none|some (c,_)=>match(!c)with
 |true=>some (0,false,())
 |false=>match shl? .u32 (IntKind.wrap .u32 (Cp a.1 a.2.1)) 16 with|none=>none|some d=>some ((IntKind.wrap .u32 ((BitVec.ofInt (IntKind.bits .u32) d ||| BitVec.ofInt (IntKind.bits .u32) (IntKind.wrap .u32 (imax a.1 a.2.1))).toNat)),true,())
def ASB[Lk]:=lkk z6
theorem ACr v:ASB v=z6 v:=A0 _
def m6[Lk]:U9->Option ((U4×Unit)):=fun(a,_)=>
 match shr? .u32 a 16 with|none=>none|some b=>some (((w64 b),((w64 (IntKind.wrap .u16 a)),())),())
def ACs[Lk]:=lkk m6
theorem tF v:ACs v=m6 v:=A0 _
abbrev iY:A1:=[AZF]
abbrev AZY:Loc×Con:=(.tmp 0,.own 4 .bool)
abbrev AHw:A1:=[AZY]
abbrev AAA:A1:=[AZF,AZB,(.tmp 9,.dat V1),Ad,Ae]
abbrev z9:BH:=[(.exit 0,[AZB])]
def Jl[Lk]:(List Int×List Bool×List Int×Int×Int×Unit)->Option ((List Int×List Bool×List Int×Int×Int×Unit)⊕(List Bool×Unit)⊕Unit):=fun(c,b,d,e,a,_)=>
 match(ilt a e)with
 |true=>match idx d a with|none=>none|some f=>match(ieq a 0)with
  |true=>match idx b a with|none=>none|some h=>some (.inl (c,(Bc b (A4 a) true),d,e,(w64 (a+1)),()))
  |false=>match idx c (w64 (a-1))with|none=>none|some g=>match idx b a with|none=>none|some i=>some (.inl (c,(Bc b (A4 a) (!(ieq g f))),d,e,(w64 (a+1)),()))
 |false=>some (.inr (.inl (b,())))
def VM[Lk]:Ue->Option ((List Bool×Unit)):=fun(a,_)=>
 match(Ca (A2 a)&&Ca (A2 a)&&ile (A2 a) (A2 a)&&true)with
 |true=>match A8 Jl many (a,(Dm (A4 (A2 a)) false),a,(A2 a),(0:Int),())with|none=>none|some r=>match r with
  |.inl (b,_)=>some (b,())
  |.inr _=>none
 |false=>none
def YT[Lk]:=lkk VM
theorem cJ v:YT v=VM v:=A0 _
def Ou[Lk]:U9->Option (U9):=fun(a,_)=>
 match(ilt a 1)with
 |true=>some (0,())
 |false=>match(ilt 16 a)with
 |true=>some (0,())
 |false=>match quo? .i64 (w64 ((w64 (32+a))-1)) a with|none=>none|some b=>some (b,())
def Ov[Lk]:=lkk Ou
theorem QF v:Ov v=Ou v:=A0 _
def Zf[Lk]:U4->Option (Ua):=fun(a,b,_)=>
 match(ile 0 a)with
 |true=>match Ov (b,())with|none=>none|some (c,_)=>some ((ilt a c),())
 |false=>some (false,())
def kO[Lk]:=lkk Zf
theorem gG v:kO v=Zf v:=A0 _
abbrev AKl:A1:=[AA,AI,AJ]
def Zp[Lk]:U8->Option (U9):=fun(c,b,a,_)=>
 match kO (b,a,())with|none=>none|some (d,_)=>match(!d)with
 |true=>some (0,())
 |false=>match shr? .u32 c (IntKind.wrap .u64 (w64 (b*a)))with|none=>none|some e=>match shl? .u32 1 (IntKind.wrap .u64 a)with|none=>none|some f=>some ((IntKind.wrap .u32 ((BitVec.ofInt (IntKind.bits .u32) e &&& BitVec.ofInt (IntKind.bits .u32) (IntKind.wrap .u32 (f-1))).toNat)),())
def T5[Lk]:=lkk Zp
theorem gS v:T5 v=Zp v:=A0 _
abbrev AKf:A1:=[AD,AI,(.tmp 5,.map U0 U0),(.tmp 9,.dat U6),Ad,Ae]
abbrev AKe:BH:=[(.ret,[AH]),(.exit 0,[AD,AI])]
def Nb[Lk]:(List Int×Int×List Uu×List Int×Int×Int×Unit)->Option ((List Int×Int×List Uu×List Int×Int×Int×Unit)⊕Ua⊕Uf⊕Unit):=fun(e,c,b,f,g,d,_)=>
 match(ilt d g)with
 |true=>match idx f d with|none=>none|some a=>match(ilt a 0)with
  |true=>some (.inr (.inl (false,())))
  |false=>match(ile c a)with
  |true=>some (.inr (.inl (false,())))
  |false=>match(ilt 1 ((A_ (BG b a (w64 (((A_ b a).getD 0)+1))) a).getD 0))with
  |true=>some (.inr (.inl (false,())))
  |false=>some (.inl (e,c,(BG b a (w64 (((A_ b a).getD 0)+1))),f,g,(w64 (d+1)),()))
 |false=>some (.inr (.inr (.inl (e,c,()))))
def kQ[Lk]:Uf->Option (Ua):=fun(a,b,_)=>
 match A8 Nb many (a,b,([]:List Uu),a,(A2 a),0,())with|none=>none|some r=>match r with
 |.inl (c,_)=>some (c,())
 |.inr r=>match r with
 |.inl (d,e,_)=>some ((ieq (A2 d) e),())
 |.inr _=>none
def ABf[Lk]:=lkk kQ
theorem p8 v:ABf v=kQ v:=A0 _
abbrev AU8:A1:=[AZF,AE,AJ,AX]
abbrev AZZ:Loc×Con:=(.tmp 13,.own 3 U0)
abbrev AZa:Loc×Con:=(.tmp 9,.own 3 U0)
abbrev ATV:A1:=[AZF,AJ,AX,AZa,AZZ,(.tmp 63,.dat U6),(.tmp 64,.di),(.tmp 65,.di)]
abbrev ATS:BH:=[(.exit 4,[AZZ])]
def kW[Lk]:(List Int×Int×Int×List Int×List Int×List Int×Int×Int×Unit)->Option ((List Int×Int×Int×List Int×List Int×List Int×Int×Int×Unit)⊕Ue⊕Unit):=fun(e,f,g,a,c,h,i,d,_)=>
 match(ilt d i)with
 |true=>match idx h d with|none=>none|some j=>match idx e j with|none=>none|some k=>match T5 (k,f,g,())with|none=>none|some (b,_)=>match idx a b with|none=>none|some l=>match idx c (A9 a (A4 b) 0)with|none=>none|some m=>match idx a b with|none=>none|some n=>match idx a b with|none=>none|some o=>some (.inl (e,f,g,(Bc a (A4 b) (w64 ((A9 a (A4 b) 0)+1))),(Bc c (A4 (A9 a (A4 b) 0)) j),h,i,(w64 (d+1)),()))
 |false=>some (.inr (.inl (c,())))
abbrev ATW:A1:=[AZF,AE,AJ,AX,AZa,(.tmp 44,.di),AZD]
abbrev ATT:BH:=[(.exit 2,[AZF,AE,AJ,AX,AZa])]
def Zq[Lk]:(List Int×List Int×Int×Int×List Int×Int×Int×Unit)->Option ((List Int×List Int×Int×Int×List Int×Int×Int×Unit)⊕(List Int×List Int×Int×Int×List Int×Unit)⊕Unit):=fun(c,d,e,f,b,g,a,_)=>
 match(ilt a g)with
 |true=>match idx b (w64 (a+1))with|none=>none|some h=>match idx b a with|none=>none|some i=>match idx b (w64 (a+1))with|none=>none|some j=>some (.inl (c,d,e,f,(Bc b (A4 (w64 (a+1))) (w64 ((A9 b (A4 (w64 (a+1))) 0)+(A9 b (A4 a) 0)))),g,(w64 (a+1)),()))
 |false=>some (.inr (.inl (c,d,e,f,b,())))
abbrev AZb:Loc×Con:=(.tmp 24,.di)
abbrev ATX:A1:=[AZF,AE,AJ,AX,AZa,(.tmp 22,.dat U6),(.tmp 23,.di),AZb]
abbrev ATU:BH:=[(.exit 0,[AZF,AE,AJ,AX,AZa])]
def Zr[Lk]:V7->Option (V7⊕(List Int×List Int×Int×Int×List Int×Unit)⊕Unit):=fun(c,g,d,e,a,h,i,f,_)=>
 match(ilt f i)with
 |true=>match idx h f with|none=>none|some j=>match idx c j with|none=>none|some k=>match T5 (k,d,e,())with|none=>none|some (b,_)=>match idx a (IntKind.wrap .u32 (b+1))with|none=>none|some l=>match idx a (IntKind.wrap .u32 (b+1))with|none=>none|some m=>some (.inl (c,g,d,e,(Bc a (A4 (IntKind.wrap .u32 (b+1))) (w64 ((A9 a (A4 (IntKind.wrap .u32 (b+1))) 0)+1))),h,i,(w64 (f+1)),()))
 |false=>some (.inr (.inl (c,g,d,e,a,())))
def AKp[Lk]:V0->Option (Ue):=fun(f,c,g,d,_)=>
 match shl? .i64 1 (IntKind.wrap .u64 d)with|none=>none|some b=>match(Ca (w64 (b+1))&&Ca (w64 (b+1))&&ile (w64 (b+1)) (w64 (b+1))&&true)with
 |true=>match A8 Zr many (f,c,g,d,(Dm (A4 (w64 (b+(1:Int)))) (0:Int)),c,(A2 c),(0:Int),())with|none=>none|some r=>match r with
  |.inl (h,i,j,k,e,_)=>match A8 Zq many (h,i,j,k,e,(w64 ((A2 e)-1)),0,())with|none=>none|some r=>match r with
   |.inl (l,a,m,n,o,_)=>match(Ca (A2 a)&&Ca (A2 a)&&ile (A2 a) (A2 a)&&true)with
    |true=>match A8 kW many (l,m,n,o,(Dm (A4 (A2 a)) (0:Int)),a,(A2 a),(0:Int),())with|none=>none|some r=>match r with
     |.inl (p,_)=>some (p,())
     |.inr _=>none
    |false=>none
   |.inr _=>none
  |.inr _=>none
 |false=>none
def rby[Lk]:=lkk AKp
theorem AKo v:rby v=AKp v:=A0 _
def NL[Lk]:U4->Option (Ua):=fun(a,b,_)=>
 match(ile 1 a)with
 |true=>match(ile a 1000)with
  |true=>match(ile 1 b)with
   |true=>some ((ile b 100),())
   |false=>some (false,())
  |false=>some (false,())
 |false=>some (false,())
def Kt[Lk]:=lkk NL
theorem Rf v:Kt v=NL v:=A0 _
abbrev AZc:Loc×Con:=(.tmp 0,.dat (.prod V5 (.prod U0 (.prod Uv .unit))))
abbrev AD5:A1:=[AZc]
abbrev AZd:Loc×Con:=(.cell 0 0,.dat V5)
abbrev AZe:Loc×Con:=(.cell 0 2,.dat Uv)
abbrev AZf:Loc×Con:=(.cell 0 1,.di)
abbrev vF:A1:=[AZX,AZd,AZf,AZe,(.tmp 25,.dat V5),Ac,Ab]
def Lw[Lk]:(List U7×Int×List Bool×List U7×Int×Int×Unit)->Option ((List U7×Int×List Bool×List U7×Int×Int×Unit)⊕Ua⊕(Unit)⊕Unit):=fun(f,g,c,d,e,b,_)=>
 match(ilt b e)with
 |true=>match idx d b with|none=>none|some a=>match(ilt a.1 0)with
  |true=>some (.inr (.inl (false,())))
  |false=>match(ile a.2.1 a.1)with
  |true=>some (.inr (.inl (false,())))
  |false=>match(ilt (A2 c) a.2.1)with
  |true=>some (.inr (.inl (false,())))
  |false=>match(ilt a.2.2.1 (-1:Int))with
  |true=>some (.inr (.inl (false,())))
  |false=>match(ile b a.2.2.1)with
  |true=>some (.inr (.inl (false,())))
  |false=>match(ilt a.2.2.2.1 0)with
  |true=>some (.inr (.inl (false,())))
  |false=>match(ilt 2 a.2.2.2.1)with
  |true=>some (.inr (.inl (false,())))
  |false=>some (.inl (f,g,c,d,e,(w64 (b+1)),()))
 |false=>some (.inr (.inr (.inl ())))
def Ti[Lk]:(((List U7)×Int×(List Bool)×Unit)×Unit)->Option (Ua):=fun(a,_)=>
 match Kt ((A2 a.2.2.1),a.2.1,())with|none=>none|some (b,_)=>match(!b)with
 |true=>some (false,())
 |false=>match(ieq (A2 a.1) 0)with
 |true=>some (false,())
 |false=>match(ilt 2000 (A2 a.1))with
 |true=>some (false,())
 |false=>match A8 Lw many (a.1,a.2.1,a.2.2.1,a.1,(A2 a.1),0,())with|none=>none|some r=>match r with
 |.inl (c,_)=>some (c,())
 |.inr r=>match r with
 |.inl _=>some (true,())
 |.inr _=>none
def Rb[Lk]:=lkk Ti
theorem Y5 v:Rb v=Ti v:=A0 _
abbrev Ks:A1:=[AZc,AI]
def Th[Lk]:(((List U7)×Int×(List Bool)×Unit)×Int×Unit)->Option (U9):=fun(a,b,_)=>
 match Rb ((a.1,(a.2.1,(a.2.2.1,()))),())with|none=>none|some (c,_)=>match(!c)with
 |true=>some (1,())
 |false=>match(ilt b 0)with
 |true=>some (6,())
 |false=>match(ile (A2 a.1) b)with
 |true=>some (6,())
 |false=>some (0,())
def Om[Lk]:=lkk Th
theorem Y4 v:Om v=Th v:=A0 _
abbrev AD2:A1:=[(.tmp 0,.dat Ub)]
def Tg[Lk]:(U7×Unit)->Option (U9):=fun(a,_)=>
 some ((w64 (a.2.1-a.1)),())
def Lv[Lk]:=lkk Tg
theorem Y3 v:Lv v=Tg v:=A0 _
def Tj[Lk]:(((List U7)×Int×(List Bool)×Unit)×Int×Unit)->Option (Ua):=fun(a,c,_)=>
 match Om ((a.1,(a.2.1,(a.2.2.1,()))),c,())with|none=>none|some (d,_)=>match(ieq d 0)with
 |true=>match idx a.1 c with|none=>none|some b=>match Lv ((b.1,(b.2.1,(b.2.2.1,(b.2.2.2.1,())))),())with|none=>none|some (e,_)=>some ((ilt a.2.1 e),())
 |false=>some (false,())
def Rc[Lk]:=lkk Tj
theorem Y7 v:Rc v=Tj v:=A0 _
abbrev AZg:Loc×Con:=(.tmp 0,.own 212 Ub)
abbrev AD8:A1:=[AZg,AI,(.tmp 2,.own 4 .bool),AX]
def Tk[Lk]:U4->Option ((List U7×Int×List Bool×Int×Unit)):=fun(a,b,_)=>
 match Kt (a,b,())with|none=>none|some (c,_)=>match(!c)with
 |true=>some (([]:List U7),0,([]:List (Bool)),1,())
 |false=>match(Ca a&&Ca a&&ile a a&&true)with
 |true=>some (([((0:Int),(a,((-1:Int),((0:Int),()))))]:List U7),b,(Dm (A4 a) false),(0:Int),())
 |false=>none
def Xr[Lk]:=lkk Tk
theorem Y8 v:Xr v=Tk v:=A0 _
abbrev AJd:A1:=[(.tmp 0,.dat V5),AI,(.tmp 2,.dat Uv),AX,AW,AG]
abbrev AJc:List RS:=[.agg 3,.one,.one,.one]
def Y6[Lk]:(((List U7)×Int×(List Bool)×Unit)×Int×Unit)->Option ((List U7×Int×List Bool×Int×Int×Int×Unit)):=fun(b,c,_)=>
 match Om ((b.1,(b.2.1,(b.2.2.1,()))),c,())with|none=>none|some (f,_)=>match(!(ieq f 0))with
 |true=>some (b.1,b.2.1,b.2.2.1,0,0,f,())
 |false=>match idx b.1 c with|none=>none|some a=>match Lv ((a.1,(a.2.1,(a.2.2.1,(a.2.2.2.1,())))),())with|none=>none|some (g,_)=>match(ile g b.2.1)with
 |true=>some (b.1,b.2.1,b.2.2.1,0,0,5,())
 |false=>match(ilt 0 a.2.2.2.1)with
 |true=>some (b.1,b.2.1,b.2.2.1,0,0,5,())
 |false=>match(ilt 2000 (w64 ((A2 b.1)+2)))with
 |true=>some (b.1,b.2.1,b.2.2.1,0,0,2,())
 |false=>match Lv ((a.1,(a.2.1,(a.2.2.1,(a.2.2.2.1,())))),())with|none=>none|some (h,_)=>match quo? .i64 h 2 with|none=>none|some d=>match IH b.1 with|none=>none|some e=>match(fits ((A2 e)+(A2 ([(a.1,((w64 (a.1+d)),(c,(0,())))),((w64 (a.1+d)),(a.2.1,(c,(0,()))))]:List U7))))with
 |true=>match idx (BV e ([(a.1,((w64 (a.1+d)),(c,(0,())))),((w64 (a.1+d)),(a.2.1,(c,(0,()))))]:List U7)) c with|none=>none|some i=>some ((Bc (BV e ([(a.1,((w64 (a.1+d)),(c,(0,())))),((w64 (a.1+d)),(a.2.1,(c,(0,()))))]:List U7)) (A4 c) ((A9 (BV e ([(a.1,((w64 (a.1+d)),(c,(0,())))),((w64 (a.1+d)),(a.2.1,(c,(0,()))))]:List U7)) (A4 c) (0,(0,(0,(0,()))))).1,((A9 (BV e ([(a.1,((w64 (a.1+d)),(c,(0,())))),((w64 (a.1+d)),(a.2.1,(c,(0,()))))]:List U7)) (A4 c) (0,(0,(0,(0,()))))).2.1,((A9 (BV e ([(a.1,((w64 (a.1+d)),(c,(0,())))),((w64 (a.1+d)),(a.2.1,(c,(0,()))))]:List U7)) (A4 c) (0,(0,(0,(0,()))))).2.2.1,(2,()))))),b.2.1,b.2.2.1,(A2 b.1),(w64 ((A2 b.1)+1)),0,())
 |false=>none
def j4[Lk]:=lkk Y6
theorem fU v:j4 v=Y6 v:=A0 _
abbrev vI:A1:=[AZg,AI]
abbrev AZh:Loc×Con:=(.obj 0,.own 212 Ub)
abbrev vH:A1:=[AZh,AF]
abbrev pF:A1:=[AZh,Ao,AI]
abbrev pE:BH:=[(.ret,[AZh,AH]),(.exit 0,[AZh])]
def Hj[Lk]:(List U7×Int×Unit)->Option ((List U7×Int×Unit)⊕(List U7×Bool×Unit)⊕(List U7×Unit)⊕Unit):=fun(b,a,_)=>
 match(!(ieq a (-1:Int)))with
 |true=>match idx b a with|none=>none|some c=>match(ieq (A9 b (A4 a) (0,(0,(0,(0,()))))).2.2.2.1 0)with
  |true=>some (.inr (.inl (b,false,())))
  |false=>match(ilt 0 (A9 (Bc b (A4 a) ((A9 b (A4 a) (0,(0,(0,(0,()))))).1,((A9 b (A4 a) (0,(0,(0,(0,()))))).2.1,((A9 b (A4 a) (0,(0,(0,(0,()))))).2.2.1,((w64 ((A9 b (A4 a) (0,(0,(0,(0,()))))).2.2.2.1-1)),()))))) (A4 a) (0,(0,(0,(0,()))))).2.2.2.1)with
  |true=>some (.inr (.inl ((Bc b (A4 a) ((A9 b (A4 a) (0,(0,(0,(0,()))))).1,((A9 b (A4 a) (0,(0,(0,(0,()))))).2.1,((A9 b (A4 a) (0,(0,(0,(0,()))))).2.2.1,((w64 ((A9 b (A4 a) (0,(0,(0,(0,()))))).2.2.2.1-1)),()))))),false,())))
  |false=>some (.inl ((Bc b (A4 a) ((A9 b (A4 a) (0,(0,(0,(0,()))))).1,((A9 b (A4 a) (0,(0,(0,(0,()))))).2.1,((A9 b (A4 a) (0,(0,(0,(0,()))))).2.2.1,((w64 ((A9 b (A4 a) (0,(0,(0,(0,()))))).2.2.2.1-1)),()))))),(A9 (Bc b (A4 a) ((A9 b (A4 a) (0,(0,(0,(0,()))))).1,((A9 b (A4 a) (0,(0,(0,(0,()))))).2.1,((A9 b (A4 a) (0,(0,(0,(0,()))))).2.2.1,((w64 ((A9 b (A4 a) (0,(0,(0,(0,()))))).2.2.2.1-1)),()))))) (A4 a) (0,(0,(0,(0,()))))).2.2.1,()))
 |false=>some (.inr (.inr (.inl (b,()))))
def P1[Lk]:(List U7×Int×Unit)->Option ((List U7×Bool×Unit)):=fun(a,b,_)=>
 match A8 Hj many (a,b,())with|none=>none|some r=>match r with
 |.inl (c,d,_)=>some (c,d,())
 |.inr r=>match r with
 |.inl (e,_)=>some (e,true,())
 |.inr _=>none
def Rd[Lk]:=lkk P1
theorem WJ v:Rd v=P1 v:=A0 _
abbrev ATF:A1:=[(.tmp 0,.dat V5),AI,(.tmp 2,.dat Uv),(.tmp 3,.dat .bool),AW]
abbrev vK:List RS:=[.agg 3,.one,.one]
abbrev AZi:Loc×Con:=(.tmp 2,.box 3)
abbrev APW:A1:=[AZi,(.cell 0 0,.own 212 Ub),AZf,(.cell 0 2,.own 4 .bool),AZO,(.cell 3 0,.nil Ub),(.cell 3 1,.di),(.cell 3 2,.nil .bool),(.tmp 8,.box 4),(.cell 4 0,.di),(.cell 4 1,.di),(.cell 4 2,.di),(.cell 4 3,.di),Ah]
abbrev APV:BH:=[(.exit 0,[AZi,(.cell 0 0,.own 212 Ub),AZf,(.cell 0 2,.own 4 .bool),AZO,(.cell 3 0,.nil Ub),(.cell 3 1,.di),(.cell 3 2,.nil .bool),(.tmp 8,.box 4),(.cell 4 0,.di),(.cell 4 1,.di),(.cell 4 2,.di),(.cell 4 3,.di)])]
def Re[Lk]:(List U7×Int×List Bool×Int×Int×Int×Int×Int×Int×Unit)->Option ((List U7×Int×List Bool×Int×Int×Int×Int×Int×Int×Unit)⊕(List U7×Int×List Bool×Int×Int×Int×Int×Int×Unit)⊕Unit):=fun(d,e,b,f,g,c,h,i,a,_)=>
 match(ilt a c)with
 |true=>match idx b a with|none=>none|some j=>some (.inl (d,e,(Bc b (A4 a) true),f,g,c,h,i,(w64 (a+1)),()))
 |false=>some (.inr (.inl (d,e,b,f,g,c,h,i,())))
def vL[Lk]:(((List U7)×Int×(List Bool)×Unit)×Int×Unit)->Option ((List U7×Int×List Bool×Bool×Int×Unit)):=fun(a,c,_)=>
 match Om ((a.1,(a.2.1,(a.2.2.1,()))),c,())with|none=>none|some (d,_)=>match(!(ieq d 0))with
 |true=>some (a.1,a.2.1,a.2.2.1,false,d,())
 |false=>match idx a.1 c with|none=>none|some b=>match Lv ((b.1,(b.2.1,(b.2.2.1,(b.2.2.2.1,())))),())with|none=>none|some (e,_)=>match(ilt a.2.1 e)with
 |true=>some (a.1,a.2.1,a.2.2.1,false,5,())
 |false=>match(ilt 0 b.2.2.2.1)with
 |true=>some (a.1,a.2.1,a.2.2.1,false,5,())
 |false=>match idx a.2.2.1 b.1 with|none=>none|some f=>match f with
 |true=>some (a.1,a.2.1,a.2.2.1,false,5,())
 |false=>match IH a.1 with|none=>none|some g=>match IH a.2.2.1 with|none=>none|some h=>match A8 Re many (g,a.2.1,h,0,b.1,b.2.1,b.2.2.1,b.2.2.2.1,b.1,())with|none=>none|some r=>match r with
 |.inl (i,j,k,o,p,q,l,s,_)=>match Rd (i,l,())with|none=>none|some (m,n,_)=>some (m,j,k,n,0,())
 |.inr _=>none
def APX[Lk]:=lkk vL
theorem ABR v:APX v=vL v:=A0 _
def Q8[Lk]:U9->Option (Ua):=fun(a,_)=>
 match(ile 0 a)with
 |true=>some ((ile a 100000),())
 |false=>some (false,())
def OT[Lk]:=lkk Q8
theorem W_ v:OT v=Q8 v:=A0 _
def ct[Lk]:(((List U7)×Int×(List Bool)×Unit)×Int×Unit)->Option (Ua):=fun(a,b,_)=>
 match(ile 0 b)with
 |true=>match(ilt b (A2 a.1))with
  |true=>match idx a.1 b with|none=>none|some c=>match(ieq c.2.2.2.1 0)with
   |true=>match Rc ((a.1,(a.2.1,(a.2.2.1,()))),b,())with|none=>none|some (d,_)=>match d with
    |true=>some (true,())
    |false=>match idx a.1 b with|none=>none|some e=>match idx a.2.2.1 e.1 with|none=>none|some f=>some ((!f),())
   |false=>some (false,())
  |false=>some (false,())
 |false=>some (false,())
def nd[Lk]:=lkk ct
theorem ir v:nd v=ct v:=A0 _
abbrev AZj:Loc×Con:=(.tmp 0,.dat Va)
abbrev tN:A1:=[AZj]
abbrev AZk:Loc×Con:=(.cell 0 4,.dat .bool)
abbrev AZl:Loc×Con:=(.cell 0 3,.dat Ud)
abbrev AZm:Loc×Con:=(.cell 0 5,.di)
abbrev AZn:Loc×Con:=(.cell 0 6,.di)
abbrev AZo:Loc×Con:=(.tmp 46,.di)
abbrev AZp:Loc×Con:=(.tmp 39,.di)
abbrev AIC:A1:=[(.tmp 1,.box 7),AZd,AZf,AZe,AZl,AZk,AZm,AZn,Af,(.tmp 38,.dat Ud),AZp,(.tmp 40,.di),(.tmp 44,.dat U6),AZD,AZo]
abbrev AIB:BH:=[(.ret,[AK]),(.exit 2,[(.tmp 1,.box 7),AZd,AZf,AZe,AZl,AZk,AZm,AZn,Af,(.tmp 38,.dat Ud),AZp,(.tmp 40,.di)])]
def LS[Lk]:(List U7×Int×List Bool×List U5×Bool×Int×Int×List Uu×List U5×Int×Int×List Int×Int×Int×Unit)->Option ((List U7×Int×List Bool×List U5×Bool×Int×Int×List Uu×List U5×Int×Int×List Int×Int×Int×Unit)⊕Ua⊕Vb⊕Unit):=fun(c,d,e,g,h,i,j,b,k,l,m,n,o,f,_)=>
 match(ilt f o)with
 |true=>match idx n f with|none=>none|some a=>match(ilt 1 ((A_ (BG b a (w64 (((A_ b a).getD 0)+1))) a).getD 0))with
  |true=>some (.inr (.inl (false,())))
  |false=>match nd ((c,(d,(e,()))),a,())with|none=>none|some (p,_)=>match(!p)with
  |true=>some (.inr (.inl (false,())))
  |false=>some (.inl (c,d,e,g,h,i,j,(BG b a (w64 (((A_ b a).getD 0)+1))),k,l,m,n,o,(w64 (f+1)),()))
 |false=>some (.inr (.inr (.inl (c,d,e,g,h,i,j,b,k,l,m,()))))
abbrev AID:A1:=[(.tmp 1,.box 7),AZd,AZf,AZe,AZl,AZk,AZm,AZn,Af,(.tmp 38,.dat Ud),AZp,(.tmp 40,.di)]
def LU[Lk]:Vb->Option (Vb⊕Ua⊕(Unit)⊕Unit):=fun(e,f,g,h,i,j,k,l,b,c,a,_)=>
 match(ilt a c)with
 |true=>match idx b a with|none=>none|some d=>match A8 LS many (e,f,g,h,i,j,k,l,b,c,a,d,(A2 d),0,())with|none=>none|some r=>match r with
  |.inl (m,_)=>some (.inr (.inl (m,())))
  |.inr r=>match r with
  |.inl (n,o,p,q,s,t,u,v,w,x,y,_)=>some (.inl (n,o,p,q,s,t,u,v,w,x,(w64 (y+1)),()))
  |.inr _=>none
 |false=>some (.inr (.inr (.inl ())))
def cX[Lk]:((((List U7)×Int×(List Bool)×Unit)×(List U5)×Bool×Int×Int×Unit)×Unit)->Option (Ua):=fun(a,_)=>
 match Rb ((a.1.1,(a.1.2.1,(a.1.2.2.1,()))),())with|none=>none|some (b,_)=>match(!b)with
 |true=>some (false,())
 |false=>match(ieq (A2 a.2.1) 0)with
 |true=>some (false,())
 |false=>match(ilt 8 (A2 a.2.1))with
 |true=>some (false,())
 |false=>match OT (a.2.2.2.1,())with|none=>none|some (c,_)=>match(!c)with
 |true=>some (false,())
 |false=>match OT (a.2.2.2.2.1,())with|none=>none|some (d,_)=>match(!d)with
 |true=>some (false,())
 |false=>match A8 LU many (a.1.1,a.1.2.1,a.1.2.2.1,a.2.1,a.2.2.1,a.2.2.2.1,a.2.2.2.2.1,([]:List Uu),a.2.1,(A2 a.2.1),0,())with|none=>none|some r=>match r with
 |.inl (e,_)=>some (e,())
 |.inr r=>match r with
 |.inl _=>some (true,())
 |.inr _=>none
def nD[Lk]:=lkk cX
theorem ic v:nD v=cX v:=A0 _
abbrev AOQ:A1:=[AZg,AI,(.tmp 2,.own 4 .bool),(.tmp 3,.own 36 U6),AH,AG,AY3,AU]
abbrev AOP:List RS:=[.agg 7,.one]
def cx[Lk]:U8->Option ((List U7×Int×List Bool×List U5×Bool×Int×Int×Int×Unit)):=fun(c,d,a,_)=>
 match(ilt a 1)with
 |true=>some (([]:List U7),0,([]:List (Bool)),([]:List U5),false,0,0,1,())
 |false=>match(ilt 8 a)with
 |true=>some (([]:List U7),0,([]:List (Bool)),([]:List U5),false,0,0,1,())
 |false=>match Xr (c,d,())with|none=>none|some (e,f,g,b,_)=>match(!(ieq b 0))with
 |true=>some (([]:List U7),0,([]:List (Bool)),([]:List U5),false,0,0,b,())
 |false=>match(Ca a&&Ca a&&ile a a&&true)with
 |true=>match idx (Dm (A4 a) ()) (0:Int)with|none=>none|some h=>match(fits (A2 ([0]:List (Int))))with
  |true=>match idx (Dm (A4 a) ()) (0:Int)with|none=>none|some i=>some (e,f,g,(Bc (Dm (List.length (Dm (A4 a) ())) []) 0 ([(0:Int)]:List (Int))),false,(0:Int),(0:Int),(0:Int),())
  |false=>none
 |false=>none
def nq[Lk]:=lkk cx
theorem jB v:nq v=cx v:=A0 _
abbrev AOJ:A1:=[AJ,(.tmp 6,.dat Ud),AU,AT]
abbrev AOI:BH:=[(.exit 0,[AJ])]
def OR[Lk]:(Int×List U5×Int×Int×Unit)->Option ((Int×List U5×Int×Int×Unit)⊕U9⊕Unit):=fun(b,c,d,a,_)=>
 match(ilt a d)with
 |true=>match idx c a with|none=>none|some e=>some (.inl ((w64 (b+(A2 e))),c,d,(w64 (a+1)),()))
 |false=>some (.inr (.inl (b,())))
def ng[Lk]:((((List U7)×Int×(List Bool)×Unit)×(List U5)×Bool×Int×Int×Unit)×Unit)->Option (U9):=fun(a,_)=>
 match A8 OR many (0,a.2.1,(A2 a.2.1),0,())with|none=>none|some r=>match r with
 |.inl (b,_)=>some (b,())
 |.inr _=>none
def ACy[Lk]:=lkk ng
theorem tq v:ACy v=ng v:=A0 _
abbrev AZq:Loc×Con:=(.cell 0 10,.dat .bool)
abbrev AZr:Loc×Con:=(.cell 0 3,.own 36 U6)
abbrev AZs:Loc×Con:=(.cell 0 9,.di)
abbrev AZt:Loc×Con:=(.cell 0 7,.di)
abbrev AZu:Loc×Con:=(.cell 0 8,.di)
abbrev im:A1:=[(.tmp 0,.box 11),AZd,AZf,AZe,AZr,AZk,AZm,AZn,AZt,AZu,AZs,AZq,AI]
abbrev AZv:Loc×Con:=(.obj 1,.own' 1)
abbrev il:A1:=[(.obj 0,.box 11),AZd,AZf,AZe,AZr,AZk,AZm,AZn,AZt,AZu,AZs,AZq,AZv,AB]
def VV[Lk]:Uy->Option (Uy):=fun(b,c,d,a,e,f,g,h,i,j,k,l,_)=>
 match rem? l (A2 a)with|none=>none|some m=>match rem? (w64 (m+(A2 a))) (A2 a)with|none=>none|some n=>some (b,c,d,a,e,f,g,h,i,j,k,n,())
def TE[Lk]:=lkk VV
theorem ck v:TE v=VV v:=A0 _
abbrev AON:A1:=[(.tmp 0,.box 11),AZd,AZf,AZe,AZr,AZk,AZm,AZn,AZt,AZu,AZs,AZq,AI,AJ]
abbrev AOM:A1:=[(.obj 0,.box 11),AZd,AZf,AZe,AZr,AZk,AZm,AZn,AZt,AZu,AZs,AZq,AZv,AF]
def cw[Lk]:(List U7×Int×List Bool×List U5×Bool×Int×Int×Int×Int×Int×Bool×Int×Int×Unit)->Option ((List U7×Int×List Bool×List U5×Bool×Int×Int×Int×Int×Int×Bool×Bool×Unit)):=fun(d,e,f,a,g,h,i,j,l,m,k,b,c,_)=>
 match idx a b with|none=>none|some r=>match idx a c with|none=>none|some s=>match(ile 0 (w64 ((A2 (A9 a (A4 b) ([]:List (Int))))-1)))with
 |true=>match idx (A9 a (A4 b) ([]:List (Int))) (w64 ((A2 (A9 a (A4 b) ([]:List (Int))))-1))with|none=>none|some n=>match(ieq (w64 ((A2 (A9 a (A4 b) ([]:List (Int))))-1)) (w64 ((A2 (A9 a (A4 b) ([]:List (Int))))-1)))with
  |true=>match Ci (A9 a (A4 b) ([]:List (Int))) 0 (w64 ((A2 (A9 a (A4 b) ([]:List (Int))))-1))with|none=>none|some o=>match idx a b with|none=>none|some t=>some (d,e,f,(Bc a (A4 b) o),g,h,i,j,b,n,k,true,())
  |false=>none
 |false=>match(ilt 0 (A2 (A9 a (A4 c) ([]:List (Int)))))with
 |true=>match idx (A9 a (A4 c) ([]:List (Int))) 0 with|none=>none|some p=>match Ci (A9 a (A4 c) ([]:List (Int))) 1 (A2 (A9 a (A4 c) ([]:List (Int))))with|none=>none|some q=>match idx a c with|none=>none|some u=>some (d,e,f,(Bc a (A4 c) q),g,h,i,j,c,p,k,true,())
 |false=>some (d,e,f,a,g,h,i,j,l,m,k,false,())
def nk[Lk]:=lkk cw
theorem jA v:nk v=cw v:=A0 _
def AOL[Lk]:Uy->Option (Uy):=fun(h,i,j,a,k,d,e,f,g,b,l,c,_)=>
 match Rc ((h,(i,(j,()))),b,())with|none=>none|some (w,_)=>match w with
 |true=>match j4 ((h,(i,(j,()))),b,())with|none=>none|some (n,o,p,q,r,m,_)=>match(ieq m 0)with
  |true=>match idx a c with|none=>none|some y=>match(fits ((A2 (A9 a (A4 c) ([]:List (Int))))+(A2 ([r,q]:List (Int)))))with
   |true=>match idx a c with|none=>none|some z=>some (n,o,p,(Bc a (A4 c) (BV (A9 a (A4 c) ([]:List (Int))) ([r,q]:List (Int)))),k,d,e,f,g,b,true,m,())
   |false=>none
  |false=>some (n,o,p,a,k,d,e,f,g,b,l,m,())
 |false=>match APX ((h,(i,(j,()))),b,())with|none=>none|some (s,t,u,x,v,_)=>match k with
 |true=>some (s,t,u,a,true,d,e,f,g,b,l,v,())
 |false=>some (s,t,u,a,x,d,e,f,g,b,l,v,())
def cgo[Lk]:=lkk AOL
theorem AOK v:cgo v=AOL v:=A0 _
abbrev ASI:A1:=[AZj,AI,AJ]
abbrev ASH:A1:=[(.tmp 0,.dat V5),AI,(.tmp 2,.dat Uv),(.tmp 3,.dat Ud),AH,AG,AY3,(.tmp 7,.dat U1),AT]
abbrev ASG:List RS:=[.agg 7,.one,.one]
def m9[Lk]:((((List U7)×Int×(List Bool)×Unit)×(List U5)×Bool×Int×Int×Unit)×Int×Int×Unit)->Option ((List U7×Int×List Bool×List U5×Bool×Int×Int×U2×Int×Unit)):=fun(a,o,p,_)=>
 match nD (((a.1.1,(a.1.2.1,(a.1.2.2.1,()))),(a.2.1,(a.2.2.1,(a.2.2.2.1,(a.2.2.2.2.1,()))))),())with|none=>none|some (q,_)=>match(!q)with
 |true=>some (a.1.1,a.1.2.1,a.1.2.2.1,a.2.1,a.2.2.1,a.2.2.2.1,a.2.2.2.2.1,(0,(0,(0,(false,())))),1,())
 |false=>match(ieq a.2.2.2.1 100000)with
 |true=>some (a.1.1,a.1.2.1,a.1.2.2.1,a.2.1,a.2.2.1,a.2.2.2.1,a.2.2.2.2.1,(0,(0,(0,(false,())))),2,())
 |false=>match IH a.2.1 with|none=>none|some r=>match TE (a.1.1,a.1.2.1,a.1.2.2.1,r,a.2.2.1,a.2.2.2.1,a.2.2.2.2.1,0,(-1:Int),(-1:Int),false,o,())with|none=>none|some (s,t,u,v,w,x,y,z,A,B,C,b,_)=>match TE (s,t,u,v,w,x,y,z,A,B,C,p,())with|none=>none|some (D,E,F,G,H,I,J,y21,K,L,M,N,_)=>match nk (D,E,F,G,H,(w64 (I+1)),J,b,K,L,M,b,N,())with|none=>none|some (d,e,f,g,h,i,c,j,k,l,m,O,_)=>match O with
 |true=>match cgo (d,e,f,g,h,i,c,j,k,l,m,b,())with|none=>none|some (P,Q,R,S,T,U,V,W,X,Y,Z,n,_)=>match(!(ieq n 0))with
  |true=>some (a.1.1,a.1.2.1,a.1.2.2.1,a.2.1,a.2.2.1,a.2.2.2.1,a.2.2.2.2.1,(0,(0,(0,(false,())))),n,())
  |false=>some (P,Q,R,S,T,U,V,(W,(X,(Y,(Z,())))),0,())
 |false=>match(ieq c 100000)with
 |true=>some (a.1.1,a.1.2.1,a.1.2.2.1,a.2.1,a.2.2.1,a.2.2.2.1,a.2.2.2.2.1,(0,(0,(0,(false,())))),2,())
 |false=>some (d,e,f,g,h,i,(w64 (c+1)),(j,(k,(l,(m,())))),0,())
def ACv[Lk]:=lkk m9
theorem tK v:ACv v=m9 v:=A0 _
abbrev AZw:Loc×Con:=(.cell 0 7,.own 278 U1)
abbrev AR7:A1:=[(.tmp 0,.box 8),AZd,AZf,AZe,AZl,AZk,AZm,AZn,AZw,AI,AJ]
abbrev AZx:Loc×Con:=(.obj 0,.box 8)
abbrev ACp:A1:=[AZx,AZd,AZf,AZe,AZl,AZk,AZm,AZn,AZw,AB]
def mo[Lk]:(List U7×Int×List Bool×List U5×Bool×Int×Int×List U2×Int×Int×Unit)->Option (Ul):=fun(d,e,f,g,h,i,j,b,k,l,_)=>
 match ACv (((d,(e,(f,()))),(g,(h,(i,(j,()))))),k,l,())with|none=>none|some (m,n,o,p,q,r,s,a,c,_)=>match(ieq c 0)with
 |true=>match(fits ((A2 b)+(A2 ([(a.1,(a.2.1,(a.2.2.1,(a.2.2.2.1,()))))]:List U2))))with
  |true=>some (m,n,o,p,q,r,s,(BV b ([(a.1,(a.2.1,(a.2.2.1,(a.2.2.2.1,()))))]:List U2)),c,())
  |false=>none
 |false=>some (d,e,f,g,h,i,j,b,c,())
def s7[Lk]:=lkk mo
theorem sw v:s7 v=mo v:=A0 _
abbrev AHn:A1:=[(.tmp 0,.box 8),AZd,AZf,AZe,AZl,AZk,AZm,AZn,AZw]
abbrev AZy:Loc×Con:=(.tmp 0,.ptr' 0 0)
abbrev AZz:Loc×Con:=(.tmp 14,.di)
abbrev zu:A1:=[AZx,AZd,AZf,AZe,AZl,AZk,AZm,AZn,AZw,AZy,AX,AS,AZz]
abbrev zq:BH:=[(.ret,[AZx,AZd,AZf,AZe,AZl,AZk,AZm,AZn,AZw,AJ]),(.exit 2,[AZx,AZd,AZf,AZe,AZl,AZk,AZm,AZn,AZw,AZy,AX])]
def EA[Lk]:(List U7×Int×List Bool×List U5×Bool×Int×Int×List U2×Int×Int×Int×Unit)->Option ((List U7×Int×List Bool×List U5×Bool×Int×Int×List U2×Int×Int×Int×Unit)⊕Ul⊕Ul⊕Unit):=fun(b,c,d,e,a,f,g,h,j,k,i,_)=>
 match(ilt i k)with
 |true=>match a with
  |true=>some (.inr (.inl (b,c,d,e,a,f,g,h,0,())))
  |false=>match ACy (((b,(c,(d,()))),(e,(a,(f,(g,()))))),())with|none=>none|some (u,_)=>match(ieq u 0)with
  |true=>some (.inr (.inl (b,c,d,e,a,f,g,h,4,())))
  |false=>match s7 (b,c,d,e,a,f,g,h,i,(w64 ((w64 (i+1))+j)),())with|none=>none|some (l,m,n,o,p,q,r,s,t,_)=>match(!(ieq t 0))with
  |true=>some (.inr (.inl (l,m,n,o,p,q,r,s,t,())))
  |false=>some (.inl (l,m,n,o,p,q,r,s,j,k,(w64 (i+1)),()))
 |false=>some (.inr (.inr (.inl (b,c,d,e,a,f,g,h,j,()))))
abbrev zv:A1:=[AZx,AZd,AZf,AZe,AZl,AZk,AZm,AZn,AZw,AZy,AX]
abbrev zr:BH:=[(.ret,[AZx,AZd,AZf,AZe,AZl,AZk,AZm,AZn,AZw,AJ])]
def Fe[Lk]:Ul->Option (Ul⊕Ul⊕Unit):=fun(b,c,d,a,e,f,g,h,i,_)=>
 match A8 EA many (b,c,d,a,e,f,g,h,i,(A2 a),0,())with|none=>none|some r=>match r with
 |.inl (j,k,l,m,n,o,p,q,s,_)=>some (.inr (.inl (j,k,l,m,n,o,p,q,s,())))
 |.inr r=>match r with
 |.inl (t,u,v,w,x,y,z,A,B,_)=>some (.inl (t,u,v,w,x,y,z,A,(w64 (B+1)),()))
 |.inr _=>none
def VK[Lk]:(List U7×Int×List Bool×List U5×Bool×Int×Int×List U2×Unit)->Option (Ul):=fun(a,b,c,d,e,f,g,h,_)=>
 match A8 Fe many (a,b,c,d,e,f,g,h,0,())with|none=>none|some r=>match r with
 |.inl (i,j,k,l,m,n,o,p,q,_)=>some (i,j,k,l,m,n,o,p,q,())
 |.inr _=>none
def YQ[Lk]:=lkk VK
theorem cE v:YQ v=VK v:=A0 _
abbrev ANq:A1:=[AB,AI,AJ,(.tmp 3,.dat (.slice (.arr 2 U0)))]
abbrev ANp:A1:=[AZj,(.tmp 1,.own 278 U1),AJ]
abbrev AZ0:Loc×Con:=(.cell 1 1,.di)
abbrev AHl:A1:=[(.tmp 8,.box 7),(.cell 0 0,.nil Ub),AZf,(.cell 0 2,.nil .bool),(.cell 0 3,.nil U6),AZk,AZm,AZn,(.tmp 13,.box 8),(.cell 1 0,.dat V5),AZ0,(.cell 1 2,.dat Uv),(.cell 1 3,.dat Ud),(.cell 1 4,.dat .bool),(.cell 1 5,.di),(.cell 1 6,.di),(.cell 1 7,.own 278 U1),(.tmp 31,.dat (.slice (.arr 2 U0))),(.tmp 32,.di),(.tmp 33,.di)]
abbrev AHk:BH:=[(.exit 0,[(.tmp 8,.box 7),(.cell 0 0,.nil Ub),AZf,(.cell 0 2,.nil .bool),(.cell 0 3,.nil U6),AZk,AZm,AZn,(.tmp 13,.box 8),(.cell 1 0,.dat V5),AZ0,(.cell 1 2,.dat Uv),(.cell 1 3,.dat Ud),(.cell 1 4,.dat .bool),(.cell 1 5,.di),(.cell 1 6,.di),(.cell 1 7,.own 278 U1)]),(.ret,[(.tmp 8,.box 7),AZd,AZf,AZe,AZl,AZk,AZm,AZn,(.tmp 9,.own 278 U1),Ad])]
def I6[Lk]:(Int×Bool×Int×Int×List U7×Int×List Bool×List U5×Bool×Int×Int×List U2×List U5×Int×Int×Unit)->Option ((Int×Bool×Int×Int×List U7×Int×List Bool×List U5×Bool×Int×Int×List U2×List U5×Int×Int×Unit)⊕(Int×Bool×Int×Int×List U7×Int×List Bool×List U5×Bool×Int×Int×List U2×Unit)⊕Ul⊕Unit):=fun(b,c,d,e,f,g,h,i,a,j,k,l,n,o,m,_)=>
 match(ilt m o)with
 |true=>match idx n m with|none=>none|some p=>match a with
  |true=>some (.inr (.inl (b,c,d,e,f,g,h,i,a,j,k,l,())))
  |false=>match s7 (f,g,h,i,a,j,k,l,(A9 p 0 0),(A9 p 1 0),())with|none=>none|some (q,r,s,t,u,v,w,x,y,_)=>match(!(ieq y 0))with
  |true=>some (.inr (.inr (.inl (q,r,s,t,u,v,w,x,y,()))))
  |false=>some (.inl (b,c,d,e,q,r,s,t,u,v,w,x,n,o,(w64 (m+1)),()))
 |false=>some (.inr (.inl (b,c,d,e,f,g,h,i,a,j,k,l,())))
def cD[Lk]:(Int×Int×Int×List U5×Unit)->Option (((((List U7)×Int×(List Bool)×Unit)×(List U5)×Bool×Int×Int×Unit)×List U2×Int×Unit)):=fun(c,d,e,a,_)=>
 match nq (c,d,e,())with|none=>none|some (f,g,h,i,j,k,l,b,_)=>match(!(ieq b 0))with
 |true=>some (((([]:List U7),(0,(([]:List (Bool)),()))),(([]:List U5),(false,(0,(0,()))))),([]:List U2),b,())
 |false=>match A8 I6 many (0,false,0,0,f,g,h,i,j,k,l,([]:List U2),a,(A2 a),0,())with|none=>none|some r=>match r with
 |.inl (N,O,P,Q,m,n,o,p,q,s,t,u,_)=>match YQ (m,n,o,p,q,s,t,u,())with|none=>none|some (v,w,x,y,z,A,B,C,D,_)=>some (((v,(w,(x,()))),(y,(z,(A,(B,()))))),C,D,())
 |.inr r=>match r with
 |.inl (E,F,G,H,I,J,K,L,M,_)=>some (((E,(F,(G,()))),(H,(I,(J,(K,()))))),L,M,())
 |.inr _=>none
def VJ[Lk]:=lkk cD
theorem iU v:VJ v=cD v:=A0 _
abbrev AZ1:Loc×Con:=(.tmp 1,.dat Uq)
abbrev AHs:A1:=[AZj,AZ1]
abbrev AHr:A1:=[(.tmp 0,.own 206 U3)]
abbrev z5:A1:=[(.tmp 2,.box 7),AZd,AZf,AZe,AZl,AZk,AZm,AZn,(.tmp 5,.own 206 U3),(.tmp 9,.dat Uq),Ad,Ae]
abbrev z4:BH:=[(.exit 0,[(.tmp 5,.own 206 U3)])]
def Jj[Lk]:(List U7×Int×List Bool×List U5×Bool×Int×Int×List U4×List U2×Int×Int×Unit)->Option ((List U7×Int×List Bool×List U5×Bool×Int×Int×List U4×List U2×Int×Int×Unit)⊕Vf⊕Unit):=fun(a,f,g,h,i,j,k,b,d,e,c,_)=>
 match(ilt c e)with
 |true=>match idx d c with|none=>none|some l=>match l.2.2.2.1 with
  |true=>some (.inl (a,f,g,h,i,j,k,b,d,e,(w64 (c+1)),()))
  |false=>match(ilt l.2.2.1 0)with
  |true=>some (.inl (a,f,g,h,i,j,k,b,d,e,(w64 (c+1)),()))
  |false=>match(ile (A2 a) l.2.2.1)with
  |true=>some (.inl (a,f,g,h,i,j,k,b,d,e,(w64 (c+1)),()))
  |false=>match idx a l.2.2.1 with|none=>none|some m=>match(fits ((A2 b)+(A2 ([(m.1,(m.2.1,()))]:List U4))))with
  |true=>some (.inl (a,f,g,h,i,j,k,(BV b ([(m.1,(m.2.1,()))]:List U4)),d,e,(w64 (c+1)),()))
  |false=>none
 |false=>some (.inr (.inl (b,())))
def VL[Lk]:((((List U7)×Int×(List Bool)×Unit)×(List U5)×Bool×Int×Int×Unit)×List U2×Unit)->Option (Vf):=fun(a,b,_)=>
 match A8 Jj many (a.1.1,a.1.2.1,a.1.2.2.1,a.2.1,a.2.2.1,a.2.2.2.1,a.2.2.2.2.1,([]:List U4),b,(A2 b),0,())with|none=>none|some r=>match r with
 |.inl (c,_)=>some (c,())
 |.inr _=>none
def YS[Lk]:=lkk VL
theorem cI v:YS v=VL v:=A0 _
abbrev ANT:A1:=[(.tmp 0,.dat Um)]
def bj[Lk]:(Ur×Unit)->Option (Ua):=fun(a,_)=>
 match(ile 1 a.1)with
 |true=>match(ile a.1 100)with
  |true=>match(ile 1 a.2.1)with
   |true=>match(ile a.2.1 8)with
    |true=>some ((ile (A2 a.2.2.1) 4000),())
    |false=>some (false,())
   |false=>some (false,())
  |false=>some (false,())
 |false=>some (false,())
def mV[Lk]:=lkk bj
theorem iK v:mV v=bj v:=A0 _
abbrev ANV:A1:=[AB,(.tmp 1,.dat Um)]
abbrev El:A1:=[AY,AI,AJ]
abbrev AZ2:Loc×Con:=(.tmp 44,.own 206 U3)
abbrev AZ3:Loc×Con:=(.tmp 8,.own 278 U1)
abbrev AZ4:Loc×Con:=(.cell 2 1,.di)
abbrev AZ5:Loc×Con:=(.cell 2 0,.di)
abbrev AHT:A1:=[AZ3,AZM,(.tmp 12,.box 2),AZ5,AZ4,AZ2,AZD,AZo,(.tmp 54,.di),(.tmp 55,.di)]
abbrev AHR:BH:=[(.exit 2,[AZ3,AZM,AZ2,AZD,AZo])]
def LK[Lk]:(List U2×List Int×Int×Int×List U4×Int×Int×Int×Int×Unit)->Option ((List U2×List Int×Int×Int×List U4×Int×Int×Int×Int×Unit)⊕(List U2×List Int×List U4×Int×Int×Unit)⊕Unit):=fun(d,b,c,i,e,f,g,h,a,_)=>
 match(ilt a h)with
 |true=>match(fits ((A2 b)+(A2 ([(w64 (c+a))]:List (Int)))))with
  |true=>some (.inl (d,(BV b ([(w64 (c+a))]:List (Int))),c,i,e,f,g,h,(w64 (a+1)),()))
  |false=>none
 |false=>some (.inr (.inl (d,b,e,f,g,())))
abbrev AHU:A1:=[AZ3,AZM,AZ2,AZD,AZo]
abbrev AHS:BH:=[(.exit 0,[AZ3,AZM])]
def LL[Lk]:(List U2×List Int×List U4×Int×Int×Unit)->Option ((List U2×List Int×List U4×Int×Int×Unit)⊕(List U2×List Int×Unit)⊕Unit):=fun(c,d,b,e,a,_)=>
 match(ilt a e)with
 |true=>match idx b a with|none=>none|some k=>match A8 LK many (c,d,(A9 b (A4 a) (0,(0,()))).1,(A9 b (A4 a) (0,(0,()))).2.1,b,e,a,(w64 ((A9 b (A4 a) (0,(0,()))).2.1-(A9 b (A4 a) (0,(0,()))).1)),0,())with|none=>none|some r=>match r with
  |.inl (f,g,h,i,j,_)=>some (.inl (f,g,h,i,(w64 (j+1)),()))
  |.inr _=>none
 |false=>some (.inr (.inl (c,d,())))
def N4[Lk]:(Int×Ur×Unit)->Option (Uh):=fun(c,b,_)=>
 match(ilt c 0)with
 |true=>some (([]:List (Int)),0,1,())
 |false=>match(ilt 1000 c)with
 |true=>some (([]:List (Int)),0,1,())
 |false=>match mV ((b.1,(b.2.1,(b.2.2.1,()))),())with|none=>none|some (g,_)=>match(!g)with
 |true=>some (([]:List (Int)),0,1,())
 |false=>match(ieq c 0)with
 |true=>some (([]:List (Int)),0,0,())
 |false=>match VJ (c,b.1,b.2.1,b.2.2.1,())with|none=>none|some (a,d,e,_)=>match(!(ieq e 0))with
 |true=>some (([]:List (Int)),0,e,())
 |false=>match YS (((a.1.1,(a.1.2.1,(a.1.2.2.1,()))),(a.2.1,(a.2.2.1,(a.2.2.2.1,(a.2.2.2.2.1,()))))),d,())with|none=>none|some (f,_)=>match A8 LL many (d,([]:List (Int)),f,(A2 f),0,())with|none=>none|some r=>match r with
 |.inl (h,i,_)=>some (i,(A2 h),0,())
 |.inr _=>none
def DE[Lk]:=lkk N4
theorem PC v:DE v=N4 v:=A0 _
def ZF[Lk]:U9->Option (Ua):=fun(a,_)=>
 match(ile 1 a)with
 |true=>some ((ile a 100),())
 |false=>some (false,())
def ZG[Lk]:=lkk ZF
theorem fe v:ZG v=ZF v:=A0 _
def Tx[Lk]:U4->Option (U9):=fun(a,b,_)=>
 match(ilt a 0)with
 |true=>some (0,())
 |false=>match(ilt 1000 a)with
 |true=>some (0,())
 |false=>match ZG (b,())with|none=>none|some (c,_)=>match(!c)with
 |true=>some (0,())
 |false=>match quo? .i64 (w64 ((w64 (a+b))-1)) b with|none=>none|some d=>some (d,())
def X1[Lk]:=lkk Tx
theorem ZR v:X1 v=Tx v:=A0 _
abbrev APa:A1:=[AZF,AI,AJ]
def kB[Lk]:Uh->Option (Ue):=fun(a,b,c,_)=>
 match Ci a (w64 (b*c)) (Cp (A2 a) (w64 ((w64 (b+1))*c)))with|none=>none|some d=>some (d,())
def pP[Lk]:=lkk kB
theorem pO v:pP v=kB v:=A0 _
abbrev AKS:A1:=[AZF,(.tmp 1,.clo 327 [])]
abbrev AZ6:Loc×Con:=(.tmp 0,.own 96 Ui)
abbrev AKR:A1:=[AZ6,(.tmp 1,.dat Ui)]
abbrev AZ7:Loc×Con:=(.tmp 6,.own 96 Ui)
abbrev AEc:A1:=[(.tmp 1,.clo 327 []),AZ7,(.tmp 7,.dat Ui),(.tmp 13,.dat V1),AZz,AY8]
abbrev AEb:BH:=[(.exit 0,[AZ7,(.tmp 7,.dat Ui)])]
def Kz[Lk]:(List Int×Int×List Int×Int×Int×Unit)->Option ((List Int×Int×List Int×Int×Int×Unit)⊕Uf⊕Unit):=fun(b,c,d,e,a,_)=>
 match(ilt a e)with
 |true=>match idx d a with|none=>none|some f=>match idx b a with|none=>none|some g=>some (.inl ((Bc b (A4 a) c),(IntKind.wrap .u32 (c+f)),d,e,(w64 (a+1)),()))
 |false=>some (.inr (.inl (b,c,())))
def Zc[Lk]:Ue->Option (Uf):=fun(a,_)=>
 match(Ca (A2 a)&&Ca (A2 a)&&ile (A2 a) (A2 a)&&true)with
 |true=>match A8 Kz many ((Dm (A4 (A2 a)) (0:Int)),(0:Int),a,(A2 a),(0:Int),())with|none=>none|some r=>match r with
  |.inl (b,c,_)=>some (b,c,())
  |.inr _=>none
 |false=>none
def Tz[Lk]:=lkk Zc
theorem gF v:Tz v=Zc v:=A0 _
abbrev AZ8:Loc×Con:=(.tmp 3,.clo 327 [])
abbrev AEE:A1:=[AZF,AI,(.tmp 2,.dat Um),AZ8]
abbrev ff:A1:=[AZ6,(.tmp 1,.dat Ui),AJ,AX]
abbrev AZ9:Loc×Con:=(.tmp 17,.own 96 Ui)
abbrev AaA:Loc×Con:=(.tmp 76,.own 3 U0)
abbrev AaB:Loc×Con:=(.tmp 8,.own 96 Ui)
abbrev AaC:Loc×Con:=(.tmp 9,.dat Ui)
abbrev AaD:Loc×Con:=(.tmp 19,.di)
abbrev vc:A1:=[AZF,AI,AZ8,AaB,AaC,Ad,AZ9,AaD,AaA,AY9,AZA,(.tmp 91,.own 96 Ui),(.tmp 92,.di),(.tmp 93,.di)]
abbrev vY:BH:=[(.exit 4,[AZF,AI,AZ8,AaB,AaC,Ad,AZ9,AaA,AY9,AZA])]
def JA[Lk]:(List Int×Int×List Int×Int×Int×List Int×Int×List Int×Int×Int×List Int×Int×Int×Unit)->Option ((List Int×Int×List Int×Int×Int×List Int×Int×List Int×Int×Int×List Int×Int×Int×Unit)⊕Vj⊕Unit):=fun(g,c,e,h,i,d,b,j,k,l,f,m,a,_)=>
 match(ilt a m)with
 |true=>match idx f a with|none=>none|some n=>match idx d b with|none=>none|some o=>match idx e (w64 ((w64 (b*c))+a))with|none=>none|some p=>some (.inl (g,c,(Bc e (A4 (w64 ((w64 (b*c))+a))) (IntKind.wrap .u32 ((A9 d (A4 b) 0)+(A9 f (A4 a) 0)))),h,i,d,b,j,k,l,f,m,(w64 (a+1)),()))
 |false=>some (.inr (.inl (g,c,e,h,i,d,j,k,l,())))
abbrev vd:A1:=[AZF,AI,AZ8,AaB,AaC,Ad,AZ9,AaA,AY9,AZA]
abbrev vZ:BH:=[(.exit 2,[AaB,AaC,Ad])]
def JB[Lk]:Vj->Option (Vj⊕Uh⊕Unit):=fun(c,d,e,f,g,j,b,h,a,_)=>
 match(ilt a h)with
 |true=>match idx b a with|none=>none|some v=>match pP (c,(A9 b (A4 a) 0),d,())with|none=>none|some (k,_)=>match Tz (k,())with|none=>none|some (i,w,_)=>match A8 JA many (c,d,e,f,g,j,(A9 b (A4 a) 0),b,h,a,i,(A2 i),0,())with|none=>none|some r=>match r with
  |.inl (l,m,n,o,p,q,s,t,u,_)=>some (.inl (l,m,n,o,p,q,s,t,(w64 (u+1)),()))
  |.inr _=>none
 |false=>some (.inr (.inl (e,f,g,())))
abbrev ve:A1:=[AZF,AI,AZ8,Ad,AZZ,(.tmp 14,.own 96 Ui),(.tmp 48,.own' 0),(.tmp 49,.di),AZC]
abbrev vb:BH:=[(.exit 0,[AZF,AI,AZ8,Ad,AZZ,(.tmp 14,.own 96 Ui)])]
def JC[Lk]:(List Int×Int×Int×List Int×List Int×Int×Int×Unit)->Option ((List Int×Int×Int×List Int×List Int×Int×Int×Unit)⊕(List Int×Int×Int×List Int×List Int×Unit)⊕Unit):=fun(c,d,f,a,e,g,b,_)=>
 match(ilt b g)with
 |true=>match idx a b with|none=>none|some j=>match pP (c,(A9 a (A4 b) 0),d,())with|none=>none|some (h,_)=>match Tz (h,())with|none=>none|some (k,i,_)=>match idx e (A9 a (A4 b) 0)with|none=>none|some l=>some (.inl (c,d,f,a,(Bc e (A4 (A9 a (A4 b) 0)) i),g,(w64 (b+1)),()))
 |false=>some (.inr (.inl (c,d,f,a,e,())))
def Oo[Lk]:(List Int×Int×Ur×Unit)->Option ((List Int×Int×Int×Int×Unit)):=fun(c,d,e,_)=>
 match ZG (d,())with|none=>none|some (i,_)=>match(!i)with
 |true=>some (([]:List (Int)),0,0,1,())
 |false=>match(ilt 1000 (A2 c))with
 |true=>some (([]:List (Int)),0,0,1,())
 |false=>match X1 ((A2 c),d,())with|none=>none|some (a,_)=>match DE (a,(e.1,(e.2.1,(e.2.2.1,()))),())with|none=>none|some (f,j,g,_)=>match(!(ieq g 0))with
 |true=>some (([]:List (Int)),0,0,g,())
 |false=>match(Ca a&&Ca a&&ile a a&&true)with
 |true=>match A8 JC many (c,d,j,f,(Dm (A4 a) (0:Int)),(A2 f),(0:Int),())with|none=>none|some r=>match r with
  |.inl (b,k,l,h,m,_)=>match Tz (m,())with|none=>none|some (n,o,_)=>match(Ca (A2 b)&&Ca (A2 b)&&ile (A2 b) (A2 b)&&true)with
   |true=>match A8 JB many (b,k,(Dm (A4 (A2 b)) (0:Int)),o,l,n,h,(A2 h),(0:Int),())with|none=>none|some r=>match r with
    |.inl (p,q,s,_)=>some (p,q,(w64 (2*s)),0,())
    |.inr _=>none
   |false=>none
  |.inr _=>none
 |false=>none
def Rj[Lk]:=lkk Oo
theorem P6 v:Rj v=Oo v:=A0 _
abbrev ABV:A1:=[AZF,AI,(.tmp 2,.dat Um)]
def Xt[Lk]:(List Int×Int×Ur×Unit)->Option ((List Int×Int×Int×Int×Unit)):=fun(b,c,a,_)=>
 match Rj (b,c,(a.1,(a.2.1,(a.2.2.1,()))),())with|none=>none|some (d,e,f,g,_)=>some (d,e,f,g,())
def fc[Lk]:=lkk Xt
theorem ZE v:fc v=Xt v:=A0 _
abbrev ALB:A1:=[(.tmp 0,.dat Uv),Ax]
abbrev ALA:A1:=[AZ6]
abbrev AE0:A1:=[Ax,(.tmp 5,.own 96 Ui),(.tmp 11,.dat Uv),AR,AS]
abbrev AEz:BH:=[(.exit 0,[(.tmp 5,.own 96 Ui)])]
def K3[Lk]:(Bool×List Int×List Bool×Int×Int×Unit)->Option ((Bool×List Int×List Bool×Int×Int×Unit)⊕Ue⊕Unit):=fun(c,b,d,e,a,_)=>
 match(ilt a e)with
 |true=>match idx d a with|none=>none|some f=>match(!(f==c))with
  |true=>match idx b a with|none=>none|some g=>some (.inl (c,(Bc b (A4 a) 1),d,e,(w64 (a+1)),()))
  |false=>some (.inl (c,b,d,e,(w64 (a+1)),()))
 |false=>some (.inr (.inl (b,())))
def Zy[Lk]:(List Bool×Bool×Unit)->Option (Ue):=fun(a,b,_)=>
 match(Ca (A2 a)&&Ca (A2 a)&&ile (A2 a) (A2 a)&&true)with
 |true=>match A8 K3 many (b,(Dm (A4 (A2 a)) (0:Int)),a,(A2 a),(0:Int),())with|none=>none|some r=>match r with
  |.inl (c,_)=>some (c,())
  |.inr _=>none
 |false=>none
def ki[Lk]:=lkk Zy
theorem gZ v:ki v=Zy v:=A0 _
abbrev wv:A1:=[AZF,(.tmp 9,.own 96 Ui),Ae,AZz,(.tmp 15,.own 3 U0),(.tmp 43,.own 3 U0),(.tmp 44,.di),AZD]
abbrev wu:BH:=[(.exit 0,[Ae,AZz,(.tmp 15,.own 3 U0)])]
def JK[Lk]:V7->Option (V7⊕(Int×Int×List Int×Unit)⊕Unit):=fun(e,c,f,g,d,b,h,a,_)=>
 match(ilt a h)with
 |true=>match idx b a with|none=>none|some j=>match idx e (A9 b (A4 a) 0)with|none=>none|some i=>match(ieq i 1)with
  |true=>match idx c (A9 b (A4 a) 0)with|none=>none|some k=>match idx d (A9 c (A4 (A9 b (A4 a) 0)) 0)with|none=>none|some l=>some (.inl (e,c,f,g,(Bc d (A4 (A9 c (A4 (A9 b (A4 a) 0)) 0)) (A9 b (A4 a) 0)),b,h,(w64 (a+1)),()))
  |false=>some (.inl (e,c,f,g,d,b,h,(w64 (a+1)),()))
 |false=>some (.inr (.inl (f,g,d,())))
def T6[Lk]:(List Int×Int×Ur×Unit)->Option (Uh):=fun(c,g,a,_)=>
 match fc (c,g,(a.1,(a.2.1,(a.2.2.1,()))),())with|none=>none|some (h,b,i,d,_)=>match(!(ieq d 0))with
 |true=>some (([]:List (Int)),0,d,())
 |false=>match DE ((A2 c),(a.1,(a.2.1,(a.2.2.1,()))),())with|none=>none|some (e,j,f,_)=>match(!(ieq f 0))with
 |true=>some (([]:List (Int)),0,f,())
 |false=>match(Ca b&&Ca b&&ile b b&&true)with
 |true=>match A8 JK many (c,h,i,j,(Dm (A4 b) (0:Int)),e,(A2 e),(0:Int),())with|none=>none|some r=>match r with
  |.inl (k,l,m,_)=>some (m,(w64 (k+l)),0,())
  |.inr _=>none
 |false=>none
def X6[Lk]:=lkk T6
theorem Zw v:X6 v=T6 v:=A0 _
abbrev AKr:A1:=[(.tmp 0,.dat Uv),AI,(.tmp 2,.dat Um)]
def Zs[Lk]:(List Bool×Int×Ur×Unit)->Option (Uh):=fun(b,c,a,_)=>
 match ki (b,false,())with|none=>none|some (d,_)=>match X6 (d,c,(a.1,(a.2.1,(a.2.2.1,()))),())with|none=>none|some (e,f,g,_)=>some (e,f,g,())
def kZ[Lk]:=lkk Zs
theorem gT v:kZ v=Zs v:=A0 _
abbrev APy:A1:=[AZF,AI,AJ,(.tmp 3,.dat Um)]
abbrev AaE:Loc×Con:=(.tmp 16,.own 3 U0)
abbrev AKZ:A1:=[AZF,AI,Ae,AZz,AaE,AZD,AZo]
abbrev AKX:BH:=[(.exit 2,[Ae,AZz,AaE])]
def NY[Lk]:Vd->Option (Vd⊕(Int×Int×List Int×Unit)⊕Unit):=fun(b,c,d,e,f,g,a,_)=>
 match(ilt a g)with
 |true=>match rby (b,f,a,c,())with|none=>none|some (h,_)=>some (.inl (b,c,d,e,h,g,(w64 (a+1)),()))
 |false=>some (.inr (.inl (d,e,f,())))
abbrev AKa:A1:=[AZF,AI,Ae,AZz,AaE,(.tmp 36,.di),(.tmp 37,.di)]
abbrev AKY:BH:=[(.exit 0,[AZF,AI,Ae,AZz,AaE])]
def NZ[Lk]:Vd->Option (Vd⊕(List Int×Int×Int×Int×List Int×Unit)⊕Unit):=fun(c,d,e,f,b,g,a,_)=>
 match(ilt a g)with
 |true=>match(fits ((A2 b)+(A2 ([a]:List (Int)))))with
  |true=>some (.inl (c,d,e,f,(BV b ([a]:List (Int))),g,(w64 (a+1)),()))
  |false=>none
 |false=>some (.inr (.inl (c,d,e,f,b,())))
def X2[Lk]:(List Int×Int×Int×Ur×Unit)->Option (Uh):=fun(a,c,g,b,_)=>
 match Ov (c,())with|none=>none|some (d,_)=>match(ieq d 0)with
 |true=>some (([]:List (Int)),0,1,())
 |false=>match fc (a,g,(b.1,(b.2.1,(b.2.2.1,()))),())with|none=>none|some (p,q,h,e,_)=>match(!(ieq e 0))with
 |true=>some (([]:List (Int)),0,e,())
 |false=>match A8 NZ many (a,c,d,h,([]:List (Int)),(A2 a),0,())with|none=>none|some r=>match r with
 |.inl (i,j,f,k,l,_)=>match A8 NY many (i,j,f,k,l,f,0,())with|none=>none|some r=>match r with
  |.inl (m,n,o,_)=>some (o,(w64 (n*m)),0,())
  |.inr _=>none
 |.inr _=>none
def gI[Lk]:=lkk X2
theorem Zh v:gI v=X2 v:=A0 _
abbrev AEe:A1:=[AZF,AE]
abbrev AEd:A1:=[AZ6,Ax]
abbrev wD:A1:=[AZF,AZ7,(.tmp 14,.dat U6),AY8,(.tmp 16,.di)]
abbrev wC:BH:=[(.exit 0,[AZ7])]
def JH[Lk]:V3->Option (V3⊕Ue⊕Unit):=fun(c,a,d,e,b,_)=>
 match(ilt b e)with
 |true=>match idx d b with|none=>none|some g=>match idx c g with|none=>none|some f=>match(fits ((A2 a)+(A2 ([f]:List (Int)))))with
  |true=>some (.inl (c,(BV a ([f]:List (Int))),d,e,(w64 (b+1)),()))
  |false=>none
 |false=>some (.inr (.inl (a,())))
def T2[Lk]:V2->Option ((List Int×Bool×Unit)):=fun(b,a,_)=>
 match ABf (a,(A2 b),())with|none=>none|some (c,_)=>match(!c)with
 |true=>some (([]:List (Int)),false,())
 |false=>match A8 JH many (b,([]:List (Int)),a,(A2 a),0,())with|none=>none|some r=>match r with
 |.inl (d,_)=>some (d,true,())
 |.inr _=>none
def Ru[Lk]:=lkk T2
theorem Zg v:Ru v=T2 v:=A0 _
abbrev iW:A1:=[AZF,(.tmp 1,.dat Vh)]
abbrev AHu:A1:=[AZ6,AY7,AJ,AX]
abbrev z8:A1:=[Ah,(.tmp 11,.own 96 Ui),AZZ,AZz,(.tmp 15,.own 96 Ui),AaE,(.tmp 55,.own' 1),(.tmp 56,.di),(.tmp 57,.di)]
abbrev z7:BH:=[(.exit 0,[Ah,AZz,(.tmp 15,.own 96 Ui),AaE])]
def Jk[Lk]:(Int×List Int×List Int×Int×List Int×List Int×Int×Int×Unit)->Option ((Int×List Int×List Int×Int×List Int×List Int×Int×Int×Unit)⊕(Int×Int×List Int×List Int×Unit)⊕Unit):=fun(f,c,b,g,d,e,h,a,_)=>
 match(ilt a h)with
 |true=>match idx b a with|none=>none|some i=>match(ilt (w64 (a+1)) (A2 b))with
  |true=>match idx b (w64 (a+1))with|none=>none|some j=>match idx c (A9 b (A4 a) 0)with|none=>none|some k=>match(fits ((A2 d)+(A2 ([(A9 c (A4 (A9 b (A4 a) 0)) 0)]:List (Int)))))with
   |true=>match(fits ((A2 e)+(A2 ([(w64 ((A9 b (A4 (w64 (a+1))) 0)-(A9 b (A4 a) 0)))]:List (Int)))))with
    |true=>some (.inl (f,c,b,g,(BV d ([(A9 c (A4 (A9 b (A4 a) 0)) 0)]:List (Int))),(BV e ([(w64 ((A9 b (A4 (w64 (a+1))) 0)-(A9 b (A4 a) 0)))]:List (Int))),h,(w64 (a+1)),()))
    |false=>none
   |false=>none
  |false=>match idx c (A9 b (A4 a) 0)with|none=>none|some l=>match(fits ((A2 d)+(A2 ([(A9 c (A4 (A9 b (A4 a) 0)) 0)]:List (Int)))))with
  |true=>match(fits ((A2 e)+(A2 ([(w64 ((A2 c)-(A9 b (A4 a) 0)))]:List (Int)))))with
   |true=>some (.inl (f,c,b,g,(BV d ([(A9 c (A4 (A9 b (A4 a) 0)) 0)]:List (Int))),(BV e ([(w64 ((A2 c)-(A9 b (A4 a) 0)))]:List (Int))),h,(w64 (a+1)),()))
   |false=>none
  |false=>none
 |false=>some (.inr (.inl (f,g,d,e,())))
def PE[Lk]:(List Int×(Int×Int×Ur×Unit)×Unit)->Option (V0):=fun(b,a,_)=>
 match gI (b,a.1,a.2.1,(a.2.2.1.1,(a.2.2.1.2.1,(a.2.2.1.2.2.1,()))),())with|none=>none|some (g,h,c,_)=>match(!(ieq c 0))with
 |true=>some (([]:List (Int)),([]:List (Int)),0,c,())
 |false=>match Ru (b,g,())with|none=>none|some (d,o,_)=>match YT (d,())with|none=>none|some (i,_)=>match kZ (i,a.2.1,(a.2.2.1.1,(a.2.2.1.2.1,(a.2.2.1.2.2.1,()))),())with|none=>none|some (e,j,f,_)=>match(!(ieq f 0))with
 |true=>some (([]:List (Int)),([]:List (Int)),0,f,())
 |false=>match A8 Jk many (h,d,e,j,([]:List (Int)),([]:List (Int)),(A2 e),0,())with|none=>none|some r=>match r with
 |.inl (k,l,m,n,_)=>some (m,n,(w64 (k+l)),0,())
 |.inr _=>none
def S4[Lk]:=lkk PE
theorem Q1 v:S4 v=PE v:=A0 _
abbrev AR9:A1:=[AZ6,AI,AJ]
def YR[Lk]:(List Int×(Int×Int×Ur×Unit)×Unit)->Option (Uh):=fun(b,a,_)=>
 match S4 (b,(a.1,(a.2.1,((a.2.2.1.1,(a.2.2.1.2.1,(a.2.2.1.2.2.1,()))),()))),())with|none=>none|some (c,f,d,e,_)=>some (c,d,e,())
def cH[Lk]:=lkk YR
theorem cG v:cH v=YR v:=A0 _
abbrev AN0:A1:=[AYv,(.tmp 1,.dat Vh)]
abbrev ANz:A1:=[AYy,AI,AJ]
abbrev AH2:A1:=[AS,AZz,(.tmp 15,.own 88 U3),(.tmp 48,.own 96 Ui),(.tmp 49,.di),AZC]
abbrev AH0:BH:=[(.exit 2,[AS,AZz,(.tmp 15,.own 88 U3)])]
def HD[Lk]:(Int×Int×List U4×List Int×Int×Int×Unit)->Option ((Int×Int×List U4×List Int×Int×Int×Unit)⊕(Int×Int×List U4×Unit)⊕Unit):=fun(d,e,b,c,f,a,_)=>
 match(ilt a f)with
 |true=>match idx c a with|none=>none|some h=>match ACs ((A9 c (A4 a) 0),())with|none=>none|some (g,_)=>match(fits ((A2 b)+(A2 ([g]:List U4))))with
  |true=>some (.inl (d,e,(BV b ([g]:List U4)),c,f,(w64 (a+1)),()))
  |false=>none
 |false=>some (.inr (.inl (d,e,b,())))
abbrev AaF:Loc×Con:=(.cell 0 4,.dat (.slice (.arr 2 U0)))
abbrev AaG:Loc×Con:=(.cell 0 2,.di)
abbrev AaH:Loc×Con:=(.cell 0 3,.di)
abbrev AH3:A1:=[(.tmp 3,.box 5),AN,AZf,AaG,AaH,AaF,(.tmp 7,.own 96 Ui),(.tmp 18,.dat V4),AaD,(.tmp 20,.di)]
abbrev AH1:BH:=[(.ret,[(.tmp 4,.nil U3),AG,AY3]),(.exit 0,[(.tmp 3,.box 5),AN,AZf,AaG,AaH,AaF,(.tmp 7,.own 96 Ui)])]
def LR[Lk]:(Int×Int×Int×Int×List U5×List Int×List U4×Int×Int×Unit)->Option ((Int×Int×Int×Int×List U5×List Int×List U4×Int×Int×Unit)⊕U4⊕(Int×Int×Int×Int×List U5×List Int×Unit)⊕Unit):=fun(d,e,f,g,h,a,i,j,b,_)=>
 match(ilt b j)with
 |true=>match idx i b with|none=>none|some c=>match ASB ((c.1,(c.2.1,())),())with|none=>none|some (k,l,_)=>match(!l)with
  |true=>some (.inr (.inl (0,10,())))
  |false=>match(!(ieq c.1 c.2.1))with
  |true=>match(fits ((A2 a)+(A2 ([k]:List (Int)))))with
   |true=>some (.inl (d,e,f,g,h,(BV a ([k]:List (Int))),i,j,(w64 (b+1)),()))
   |false=>none
  |false=>some (.inl (d,e,f,g,h,a,i,j,(w64 (b+1)),()))
 |false=>some (.inr (.inr (.inl (d,e,f,g,h,a,()))))
def S6[Lk]:(List U4×(Int×Int×Ur×Unit)×Unit)->Option ((List U4×Int×Int×Unit)):=fun(b,a,_)=>
 match A8 LR many (a.1,a.2.1,a.2.2.1.1,a.2.2.1.2.1,a.2.2.1.2.2.1,([]:List (Int)),b,(A2 b),0,())with|none=>none|some r=>match r with
 |.inl (d,e,_)=>some (([]:List U4),d,e,())
 |.inr r=>match r with
 |.inl (f,g,h,i,j,k,_)=>match cH (k,(f,(g,((h,(i,(j,()))),()))),())with|none=>none|some (c,l,m,_)=>match A8 HD many (l,m,([]:List U4),c,(A2 c),0,())with|none=>none|some r=>match r with
  |.inl (n,o,p,_)=>some (p,n,o,())
  |.inr _=>none
 |.inr _=>none
def cO[Lk]:=lkk S6
theorem VN v:cO v=S6 v:=A0 _
abbrev Sf:A1:=[AD,(.cap 1 0,.box 2),AN,AY4,(.tmp 1,.clo 115 [(0,0)])]
abbrev l7:A1:=[AYu,AN,AY4,AB]
abbrev eM:A1:=[AYu,AN,AY4,AD,(.tmp 1,.clo 115 [(0,0)]),AU,AT]
abbrev eL:BH:=[(.ret,[AYu,AN,AY4,AW]),(.exit 0,[AYu,AN,AY4])]
def FJ[Lk]:(Int×List U2×List Int×Int×Int×Unit)->Option ((Int×List U2×List Int×Int×Int×Unit)⊕(Int×List U2×Int×Unit)⊕(Int×List U2×Unit)⊕Unit):=fun(a,c,d,e,b,_)=>
 match(ilt b e)with
 |true=>match idx d b with|none=>none|some f=>match(ile a f)with
  |true=>some (.inr (.inl (a,c,b,())))
  |false=>some (.inl (a,c,d,e,(w64 (b+1)),()))
 |false=>some (.inr (.inr (.inl (a,c,()))))
def MR[Lk]:(List Int×Int×List U2×Unit)->Option ((Int×List U2×Int×Unit)):=fun(a,b,c,_)=>
 match A8 FJ many (b,c,a,(A2 a),0,())with|none=>none|some r=>match r with
 |.inl (d,e,f,_)=>some (d,e,f,())
 |.inr r=>match r with
 |.inl (g,h,_)=>some (g,h,(-1:Int),())
 |.inr _=>none
def Qo[Lk]:=lkk MR
theorem Pe v:Qo v=MR v:=A0 _
abbrev AEV:A1:=[AB,(.tmp 13,.dat V4),AZz,AY8]
def Ot[Lk]:(Int×List U4×Int×Int×Unit)->Option ((Int×List U4×Int×Int×Unit)⊕U9⊕(Unit)⊕Unit):=fun(c,d,e,b,_)=>
 match(ilt b e)with
 |true=>match idx d b with|none=>none|some a=>match(ilt (Cp a.1 a.2.1) 0)with
  |true=>some (.inr (.inl (10,())))
  |false=>match(ile c (imax a.1 a.2.1))with
  |true=>some (.inr (.inl (10,())))
  |false=>some (.inl (c,d,e,(w64 (b+1)),()))
 |false=>some (.inr (.inr (.inl ())))
def ZT[Lk]:(Int×List U4×Unit)->Option (U9):=fun(a,b,_)=>
 match(ilt a 1)with
 |true=>some (1,())
 |false=>match(ilt 64 a)with
 |true=>some (1,())
 |false=>match A8 Ot many (a,b,(A2 b),0,())with|none=>none|some r=>match r with
 |.inl (c,_)=>some (c,())
 |.inr r=>match r with
 |.inl _=>some (0,())
 |.inr _=>none
def ZU[Lk]:=lkk ZT
theorem fv v:ZU v=ZT v:=A0 _
abbrev AEa:A1:=[AYw,AT,Ah]
def Ky[Lk]:Uh->Option (Uh⊕Ue⊕Unit):=fun(b,c,a,_)=>
 match(ilt a c)with
 |true=>match idx b a with|none=>none|some d=>some (.inl ((Bc b (A4 a) a),c,(w64 (a+1)),()))
 |false=>some (.inr (.inl (b,())))
def Za[Lk]:U9->Option (Ue):=fun(a,_)=>
 match(Ca a&&Ca a&&ile a a&&true)with
 |true=>match A8 Ky many ((Dm (A4 a) (0:Int)),(A2 (Dm (A4 a) (0:Int))),(0:Int),())with|none=>none|some r=>match r with
  |.inl (b,_)=>some (b,())
  |.inr _=>none
 |false=>none
def Zb[Lk]:=lkk Za
theorem gE v:Zb v=Za v:=A0 _
abbrev NO:A1:=[AY,AI]
abbrev AaI:Loc×Con:=(.obj 0,.own 3 U0)
abbrev pT:A1:=[AaI,AB]
abbrev AEJ:A1:=[AaI,Ao,AI]
abbrev AEI:BH:=[(.exit 0,[AaI,AI])]
def Tp[Lk]:Uf->Option (Uf⊕Uf⊕Unit):=fun(a,b,_)=>
 match idx a b with|none=>none|some c=>match(!(ieq (A9 a (A4 b) 0) b))with
 |true=>match idx a b with|none=>none|some d=>match idx a (A9 a (A4 b) 0)with|none=>none|some e=>match idx a b with|none=>none|some f=>match idx (Bc a (A4 b) (A9 a (A4 (A9 a (A4 b) 0)) 0)) b with|none=>none|some g=>some (.inl ((Bc a (A4 b) (A9 a (A4 (A9 a (A4 b) 0)) 0)),(A9 (Bc a (A4 b) (A9 a (A4 (A9 a (A4 b) 0)) 0)) (A4 b) 0),()))
 |false=>some (.inr (.inl (a,b,())))
def ZJ[Lk]:Uf->Option (Uf):=fun(a,b,_)=>
 match A8 Tp many (a,b,())with|none=>none|some r=>match r with
 |.inl (c,d,_)=>some (c,d,())
 |.inr _=>none
def Tq[Lk]:=lkk ZJ
theorem fi v:Tq v=ZJ v:=A0 _
abbrev ABa:A1:=[AaI,AF]
def Xw[Lk]:Uh->Option ((List Int×Bool×Unit)):=fun(d,e,f,_)=>
 match Tq (d,e,())with|none=>none|some (g,a,_)=>match Tq (g,f,())with|none=>none|some (c,b,_)=>match idx c (imax a b)with|none=>none|some h=>some ((Bc c (A4 (imax a b)) (Cp a b)),(!(ieq a b)),())
def pU[Lk]:=lkk Xw
theorem ZK v:pU v=Xw v:=A0 _
abbrev zm:A1:=[AYv,(.cap 1 0,.own 3 U0),(.tmp 1,.bnd 176 0)]
abbrev cC:A1:=[AaI,AZY]
abbrev sv:A1:=[AaI,(.tmp 1,.bnd 176 0),(.tmp 5,.own 4 .bool),(.tmp 8,.dat V4),Ah,Ad]
abbrev su:BH:=[(.exit 0,[AaI,(.tmp 5,.own 4 .bool)])]
def Dh[Lk]:(List Int×List Bool×List U4×Int×Int×Unit)->Option ((List Int×List Bool×List U4×Int×Int×Unit)⊕(List Int×List Bool×Unit)⊕Unit):=fun(c,a,d,e,b,_)=>
 match(ilt b e)with
 |true=>match idx d b with|none=>none|some f=>match pU (c,f.1,f.2.1,())with|none=>none|some (h,g,_)=>match(fits ((A2 a)+(A2 ([g]:List (Bool)))))with
  |true=>some (.inl (h,(BV a ([g]:List (Bool))),d,e,(w64 (b+1)),()))
  |false=>none
 |false=>some (.inr (.inl (c,a,())))
def Mh[Lk]:(List U4×List Int×Unit)->Option ((List Int×List Bool×Unit)):=fun(a,b,_)=>
 match A8 Dh many (b,([]:List (Bool)),a,(A2 a),0,())with|none=>none|some r=>match r with
 |.inl (c,d,_)=>some (c,d,())
 |.inr _=>none
def OC[Lk]:=lkk Mh
theorem OB v:OC v=Mh v:=A0 _
abbrev AJ1:A1:=[AY,AY0]
def Rl[Lk]:(List Int×List U4×Unit)->Option ((List Int×List Bool×Unit)):=fun(a,b,_)=>
 match OC (b,a,())with|none=>none|some (c,d,_)=>some (c,d,())
def Tt[Lk]:=lkk Rl
theorem Ts v:Tt v=Rl v:=A0 _
abbrev pc:A1:=[(.tmp 7,.own 3 U0),(.tmp 21,.di),(.tmp 22,.di)]
abbrev pZ:BH:=[(.exit 0,[(.tmp 7,.own 3 U0)])]
def Hn[Lk]:Uh->Option (Uh⊕Ue⊕Unit):=fun(b,c,a,_)=>
 match(ilt a c)with
 |true=>match Tq (b,a,())with|none=>none|some (d,e,_)=>match idx d a with|none=>none|some f=>some (.inl ((Bc d (A4 a) e),c,(w64 (a+1)),()))
 |false=>some (.inr (.inl (b,())))
def P9[Lk]:(Int×List U4×Unit)->Option (Uf):=fun(a,b,_)=>
 match ZU (a,b,())with|none=>none|some (c,_)=>match(!(ieq c 0))with
 |true=>some (([]:List (Int)),c,())
 |false=>match Zb (a,())with|none=>none|some (e,_)=>match Tt (e,b,())with|none=>none|some (d,g,_)=>match A8 Hn many (d,(A2 d),0,())with|none=>none|some r=>match r with
 |.inl (f,_)=>some (f,0,())
 |.inr _=>none
def Rq[Lk]:=lkk P9
theorem WT v:Rq v=P9 v:=A0 _
def lR[Lk]:U4->Option (Ua):=fun(a,b,_)=>
 match AF0 (a,())with|none=>none|some (c,_)=>match c with
 |true=>match AF0 (b,())with|none=>none|some (d,_)=>match(!d)with
  |true=>some (true,())
  |false=>some ((ilt a b),())
 |false=>some ((ilt a b),())
def C2[Lk]:=lkk lR
theorem rh v:C2 v=lR v:=A0 _
abbrev JY:A1:=[AaI]
abbrev ARR:A1:=[AaI,Ao,AI,AJ,AY3,AU]
abbrev ARQ:BH:=[(.exit 2,[AaI,Ao,AI,AJ,AY3])]
abbrev ARS:A1:=[AaI,Ao,AI,AJ,AY3]
abbrev ll:BH:=[(.exit 0,[AaI])]
def AUC[Lk]:=Qj (0:Int) C2 tId
def AVM[Lk]:=zH (0:Int) C2 tId
theorem ART v:AVM v=AUC v:=A0 _
abbrev KA:A1:=[AY,AI,AJ,AX]
abbrev AKA:A1:=[AaI,Ao,AJ,AX,AT]
abbrev AJ9:BH:=[(.exit 0,[AaI]),(.ret,[AaI])]
def APr[Lk]:=Lz (0:Int) C2 tId
def ASn[Lk]:=WL (0:Int) C2 tId
theorem AKB v:ASn v=APr v:=A0 _
abbrev AM9:A1:=[AaI,Ao,AY3,AU,Ad]
abbrev AM7:BH:=[(.exit 2,[AaI])]
abbrev ANA:A1:=[AaI,Ao,AY3,AU,AT,Ah]
abbrev AM8:BH:=[(.exit 0,[AaI,Ao,AY3,AU,AT])]
def ARh[Lk]:=MW (0:Int) C2 tId
def AS1[Lk]:=bX (0:Int) C2 tId
theorem ANB v:AS1 v=ARh v:=A0 _
abbrev AIm:A1:=[AaI,Ao,AI,AY3,(.tmp 7,.box 1),Aq,(.tmp 8,.dat (.int .u64)),Ah]
def AOX[Lk]:=Js (0:Int) C2 tId
def AOZ[Lk]:=Q_ (0:Int) C2 tId
theorem AIn v:AOZ v=AOX v:=A0 _
abbrev AFm:A1:=[AY,AI,AJ,As,AQ]
abbrev AFl:A1:=[AaI,At,AQ,AB,AI]
def AFn[Lk]:=G3 (0:Int) C2 tId
def AB7[Lk]:=IV (0:Int) C2 tId
theorem yG v:AB7 v=AFn v:=A0 _
abbrev AF9:A1:=[AY,AI,AJ,AX,Au,AQ]
abbrev gp:A1:=[AaI,At,AQ,AB]
def AGA[Lk]:=G6 (0:Int) C2 tId
def ACK[Lk]:=IX (0:Int) C2 tId
theorem yW v:ACK v=AGA v:=A0 _
abbrev AGL:A1:=[AY,AI,Av,AQ]
def AGM[Lk]:=G7 (0:Int) C2 tId
def ACP[Lk]:=IY (0:Int) C2 tId
theorem yd v:ACP v=AGM v:=A0 _
abbrev ALN:A1:=[AaI,AB,AI]
def ALO[Lk]:=JL (0:Int) C2 tId
def ALQ[Lk]:=QM (0:Int) C2 tId
theorem AE9 v:ALQ v=ALO v:=A0 _
abbrev AP6:A1:=[AaI,Ao,AY3,AU]
def ATN[Lk]:=QH (0:Int) C2 tId
def AU6[Lk]:=wU (0:Int) C2 tId
theorem AP7 v:AU6 v=ATN v:=A0 _
abbrev qp:A1:=[AaI,Ao,AI,AJ,AU,AT,Ad]
abbrev ql:BH:=[(.exit 6,[AaI,Ao,AI,AJ,AU,AT])]
abbrev qq:A1:=[AaI,Ao,AI,AJ,AU,AT,Ah]
abbrev qm:BH:=[(.exit 4,[AaI,Ao,AI,AJ,AU,AT])]
abbrev Wb:A1:=[AaI,Ao,AI,AJ,AU,AT]
abbrev qn:BH:=[(.exit 2,[AaI,Ao,AI,AJ,AU,AT])]
abbrev qo:BH:=[(.ret,[AaI,(.tmp 6,.dat .bool)]),(.exit 0,[AaI])]
def xg[Lk]:=FZ (0:Int) C2 tId
def qt[Lk]:=JO (0:Int) C2 tId
theorem qs v:qt v=xg v:=A0 _
abbrev QQ:A1:=[AaI,Ao,AI,Ah,Ad]
abbrev xv:BH:=[(.exit 4,[AaI,Ao,AI,Ah,Ad])]
abbrev xw:BH:=[(.exit 2,[AaI,Ao,AI,Ah,Ad])]
abbrev xx:BH:=[(.exit 0,[AaI,Ah])]
def AFX[Lk]:=G2 (0:Int) C2 tId
def AB3[Lk]:=L7 (0:Int) C2 tId
theorem xy v:AB3 v=AFX v:=A0 _
abbrev AQm:A1:=[AaI,AB,Ax]
abbrev Nh:A1:=[AaI,Ao,AI,Ad,Ae]
abbrev ALs:BH:=[(.exit 8,[AaI,Ao,AI,Ad,Ae])]
abbrev ALt:BH:=[(.exit 6,[AaI,Ao,AI,Ad,Ae])]
abbrev ALu:BH:=[(.exit 4,[AaI,Ao,AI,Ae])]
abbrev ALv:BH:=[(.exit 2,[AaI,Ao,AI,Ad,Ae])]
abbrev ALw:BH:=[(.exit 0,[AaI,Ao,AI,Ad,Ae])]
def AQn[Lk]:=L6 (0:Int) C2 tId
def ASt[Lk]:=R5 (0:Int) C2 tId
theorem ALx v:ASt v=AQn v:=A0 _
abbrev ABx:A1:=[AaI,Ao,AI,AJ,AX,Aw,(.tmp 9,.dat .bool)]
abbrev ABw:BH:=[(.ret,[AaI])]
def ABv[Lk]:=KD (0:Int) C2 tId
def ATh[Lk]:=QN (0:Int) C2 tId
def Z8[Lk]:=JN (0:Int) C2 tId
def AQb[Lk]:=xW (0:Int) C2 tId
theorem AQa v:AQb v=Z8 100 v:=A0 _
def APg[Lk]:=Lx (0:Int) C2 tId
def pS[Lk]:=fh (0:Int) C2 tId
theorem AJw v:pS v=APg v:=A0 _
abbrev AaJ:Loc×Con:=(.tmp 2,.clo 169 [])
abbrev AaK:Loc×Con:=(.tmp 0,.dat Uq)
abbrev AUb:A1:=[AaK,(.tmp 1,.dat U1),AaJ]
abbrev nw:A1:=[AB,Ax]
abbrev AaL:Loc×Con:=(.cell 0 3,.dat .bool)
abbrev ASS:A1:=[AaK,AaJ,(.tmp 4,.box 4),AN,AZf,AaG,AaL,AT,Ah,Ad]
abbrev ASR:BH:=[(.exit 0,[AaK,AaJ,(.tmp 4,.box 4),AN,AZf,AaG,AaL,AT,Ah])]
def TJ[Lk]:(List U2×Int×Int×Int×Bool×Int×Int×Int×Unit)->Option ((List U2×Int×Int×Int×Bool×Int×Int×Int×Unit)⊕(List U2×Int×Int×Int×Bool×Int×Int×Unit)⊕Unit):=fun(a,b,c,d,e,h,f,i,_)=>
 match(ilt f i)with
 |true=>match shr? .u64 (IntKind.wrap .u64 (w64 (f+i))) 1 with|none=>none|some j=>match idx a (w64 j)with|none=>none|some g=>match GJ ((g.1,(g.2.1,(g.2.2.1,(g.2.2.2.1,())))),(b,(c,(d,(e,())))),())with|none=>none|some (k,_)=>match(ilt k 0)with
  |true=>some (.inl (a,b,c,d,e,h,(w64 ((w64 j)+1)),i,()))
  |false=>some (.inl (a,b,c,d,e,h,f,(w64 j),()))
 |false=>some (.inr (.inl (a,b,c,d,e,h,f,())))
def AA2[Lk]:(List U2×U2×Unit)->Option ((Int×Bool×Unit)):=fun(d,a,_)=>
 match A8 TJ many (d,a.1,a.2.1,a.2.2.1,a.2.2.2.1,(A2 d),0,(A2 d),())with|none=>none|some r=>match r with
 |.inl (e,f,g,h,i,j,b,_)=>match(ilt b j)with
  |true=>match idx e b with|none=>none|some c=>match GJ ((c.1,(c.2.1,(c.2.2.1,(c.2.2.2.1,())))),(f,(g,(h,(i,())))),())with|none=>none|some (k,_)=>some (b,(ieq k 0),())
  |false=>some (b,false,())
 |.inr _=>none
def AOh[Lk]:=lkk AA2
theorem AC0 v:AOh v=AA2 v:=A0 _
abbrev SH:A1:=[AYx,AI,AJ]
def aW[Lk]:Ut->Option ((Int×Bool×Unit)):=fun(c,a,b,_)=>
 match AOh (c.2.1,((Cp a b),((imax a b),(0,(false,())))),())with|none=>none|some (d,e,_)=>some (d,e,())
def yi[Lk]:=lkk aW
theorem gu v:yi v=aW v:=A0 _
abbrev AaM:Loc×Con:=(.tmp 1,.clo 335 [(1,0)])
abbrev AaN:Loc×Con:=(.cell 1 1,.dat Ud)
abbrev Ny:A1:=[AY,(.cap 1 0,.box 2),AQ,AaN,AaM]
abbrev AaO:Loc×Con:=(.obj 1,.box 2)
abbrev bQ:A1:=[AaI,AaO,AQ,AaN,AB]
abbrev XR:A1:=[AaI,AaO,AQ,AaN,Ao,AaM,AU,AT]
abbrev XQ:BH:=[(.ret,[AaI,AaO,AQ,AaN,AW]),(.exit 0,[AaI,AaO,AQ,AaN])]
def DX[Lk]:(List Int×Int×List U5×Int×Int×Unit)->Option ((List Int×Int×List U5×Int×Int×Unit)⊕(List Int×Int×List U5×Int×Unit)⊕(List Int×Int×List U5×Unit)⊕Unit):=fun(a,c,d,e,b,_)=>
 match(ilt b e)with
 |true=>match idx a b with|none=>none|some f=>match(ile c (A9 a (A4 b) 0))with
  |true=>some (.inr (.inl (a,c,d,b,())))
  |false=>some (.inl (a,c,d,e,(w64 (b+1)),()))
 |false=>some (.inr (.inr (.inl (a,c,d,()))))
def Je[Lk]:(List Int×Int×List U5×Unit)->Option ((List Int×Int×List U5×Int×Unit)):=fun(a,b,c,_)=>
 match A8 DX many (a,b,c,(A2 a),0,())with|none=>none|some r=>match r with
 |.inl (d,e,f,g,_)=>some (d,e,f,g,())
 |.inr r=>match r with
 |.inl (h,i,j,_)=>some (h,i,j,(-1:Int),())
 |.inr _=>none
def MP[Lk]:=lkk Je
theorem M0 v:MP v=Je v:=A0 _
abbrev ARl:A1:=[(.tmp 0,.nil U1),AI]
abbrev AaP:Loc×Con:=(.tmp 0,.own 152 U1)
abbrev ACY:A1:=[AaP]
def mM[Lk]:U9->Option ((List U2×Unit)):=fun(a,_)=>
 match(ilt a 0)with
 |true=>none
 |false=>match(ilt 0 (w64 (a-(w64 (0-0)))))with
 |true=>match Ci ([]:List Unit) 0 0 with|none=>none|some _u0=>match(Ca (w64 (a-(w64 (0-0)))))with
  |true=>match Ci (Dm (A4 (w64 (a-(w64 ((0:Int)-(0:Int)))))) ((0:Int),((0:Int),((0:Int),(false,()))))) (0:Int) (0:Int)with|none=>none|some b=>some ((C5 (A4 (A2 b)) (Dm (A4 (w64 (a-(w64 ((0:Int)-(0:Int)))))) ((0:Int),((0:Int),((0:Int),(false,())))))),())
  |false=>none
 |false=>some (([]:List U2),())
def ACZ[Lk]:=lkk mM
theorem sG v:ACZ v=mM v:=A0 _
abbrev AaQ:Loc×Con:=(.tmp 0,.dat (.slice Uq))
abbrev AIL:A1:=[AaQ]
abbrev AAR:A1:=[(.tmp 6,.own 152 U1),(.tmp 25,.dat (.slice Uq)),Ac,Ab]
abbrev AAP:BH:=[(.exit 2,[(.tmp 6,.own 152 U1)])]
def Jo[Lk]:(List U2×List (List U2)×Int×Int×Unit)->Option ((List U2×List (List U2)×Int×Int×Unit)⊕(List U2×Unit)⊕Unit):=fun(a,c,d,b,_)=>
 match(ilt b d)with
 |true=>match idx c b with|none=>none|some e=>match(fits ((A2 a)+(A2 e)))with
  |true=>some (.inl ((BV a e),c,d,(w64 (b+1)),()))
  |false=>none
 |false=>some (.inr (.inl (a,())))
abbrev AAS:A1:=[AaQ,AX,(.tmp 9,.dat (.slice Uq)),Ad,Ae]
abbrev AAQ:BH:=[(.exit 0,[AaQ,AX])]
def Jp[Lk]:(List (List U2)×Int×List (List U2)×Int×Int×Unit)->Option ((List (List U2)×Int×List (List U2)×Int×Int×Unit)⊕(List (List U2)×Int×Unit)⊕Unit):=fun(c,a,d,e,b,_)=>
 match(ilt b e)with
 |true=>match idx d b with|none=>none|some f=>match(ilt (w64 (a+(A2 f))) 0)with
  |true=>none
  |false=>some (.inl (c,(w64 (a+(A2 f))),d,e,(w64 (b+1)),()))
 |false=>some (.inr (.inl (c,a,())))
def VS[Lk]:(List (List U2)×Unit)->Option ((List U2×Unit)):=fun(a,_)=>
 match A8 Jp many (a,0,a,(A2 a),0,())with|none=>none|some r=>match r with
 |.inl (b,c,_)=>match ACZ (c,())with|none=>none|some (d,_)=>match A8 Jo many (d,b,(A2 b),0,())with|none=>none|some r=>match r with
  |.inl (e,_)=>some (e,())
  |.inr _=>none
 |.inr _=>none
def TD[Lk]:=lkk VS
theorem cf v:TD v=VS v:=A0 _
abbrev AaR:Loc×Con:=(.cell 0 0,.dat U6)
abbrev KO:A1:=[AD,(.cap 1 0,.box 1),AaR,(.tmp 1,.clo 212 [(0,0)])]
abbrev Se:A1:=[Ai,AaR,AB]
abbrev Qn:A1:=[Ai,AaR,AD,(.tmp 1,.clo 212 [(0,0)]),AU,AT]
abbrev Qm:BH:=[(.ret,[Ai,AaR,AW]),(.exit 0,[Ai,AaR])]
def DN[Lk]:V0->Option (V0⊕Uf⊕Ue⊕Unit):=fun(a,c,d,b,_)=>
 match(ilt b d)with
 |true=>match idx c b with|none=>none|some e=>match(ilt e 0)with
  |true=>some (.inr (.inl (a,b,())))
  |false=>match(ile (A2 a) e)with
  |true=>some (.inr (.inl (a,b,())))
  |false=>some (.inl (a,c,d,(w64 (b+1)),()))
 |false=>some (.inr (.inr (.inl (a,()))))
def GM[Lk]:V2->Option (Uf):=fun(a,b,_)=>
 match A8 DN many (b,a,(A2 a),0,())with|none=>none|some r=>match r with
 |.inl (c,d,_)=>some (c,d,())
 |.inr r=>match r with
 |.inl (e,_)=>some (e,(-1:Int),())
 |.inr _=>none
def ID[Lk]:=lkk GM
theorem Jf v:ID v=GM v:=A0 _
abbrev AaS:Loc×Con:=(.cell 1 2,.di)
abbrev AN9:A1:=[AD,(.cap 1 0,.box 1),AaR,(.cap 1 1,.box 3),AQ,AZ0,AaS,(.tmp 1,.clo 141 [(0,0),(1,0)])]
abbrev AN8:A1:=[Ai,AaR,(.obj 1,.box 3),AQ,AZ0,AaS,AB]
abbrev AII:A1:=[Ai,AaR,(.obj 1,.box 3),AQ,AZ0,AaS,(.tmp 1,.clo 141 [(0,0),(1,0)]),AW,Ag,AT,Ah]
abbrev AIH:BH:=[(.exit 0,[Ai,AaR,(.obj 1,.box 3),AQ,AZ0,AaS,AW])]
def LX[Lk]:(List Int×Int×Int×Int×Int×List Int×Int×Int×Unit)->Option ((List Int×Int×Int×Int×Int×List Int×Int×Int×Unit)⊕(List Int×Int×Int×Int×Int×Unit)⊕Unit):=fun(a,d,b,e,f,g,h,c,_)=>
 match(ilt c h)with
 |true=>match idx g c with|none=>none|some i=>match idx a b with|none=>none|some j=>match(ieq i j)with
  |true=>some (.inl (a,d,b,e,(w64 (f+1)),g,h,(w64 (c+1)),()))
  |false=>some (.inl (a,d,b,e,f,g,h,(w64 (c+1)),()))
 |false=>some (.inr (.inl (a,d,b,e,f,())))
def cZ[Lk]:(List Int×List Int×Int×Int×Int×Unit)->Option ((List Int×Int×Int×Int×Int×Unit)):=fun(a,b,c,d,e,_)=>
 match A8 LX many (b,c,d,e,0,a,(A2 a),0,())with|none=>none|some r=>match r with
 |.inl (f,g,h,i,j,_)=>some (f,g,h,i,j,())
 |.inr _=>none
def ca[Lk]:=lkk cZ
theorem ij v:ca v=cZ v:=A0 _
abbrev AN6:A1:=[AD,(.tmp 1,.clo 142 [])]
abbrev AIF:A1:=[(.tmp 1,.clo 142 []),AW,Ag,AT,Ah]
abbrev AIE:BH:=[(.exit 0,[AW])]
def LW[Lk]:(Int×List Int×Int×Int×Unit)->Option ((Int×List Int×Int×Int×Unit)⊕U9⊕Unit):=fun(b,c,d,a,_)=>
 match(ilt a d)with
 |true=>match idx c a with|none=>none|some e=>match(ieq a e)with
  |true=>some (.inl ((w64 (b+1)),c,d,(w64 (a+1)),()))
  |false=>some (.inl (b,c,d,(w64 (a+1)),()))
 |false=>some (.inr (.inl (b,())))
def cY[Lk]:Ue->Option (U9):=fun(a,_)=>
 match A8 LW many (0,a,(A2 a),0,())with|none=>none|some r=>match r with
 |.inl (b,_)=>some (b,())
 |.inr _=>none
def nE[Lk]:=lkk cY
theorem ig v:nE v=cY v:=A0 _
abbrev AaT:Loc×Con:=(.tmp 0,.dat (.slice (.int .u8)))
abbrev fD:A1:=[AaT,AI]
def TY[Lk]:Uf->Option ((Int×Bool×Unit)):=fun(b,a,_)=>
 match(ilt a 0)with
 |true=>some (0,false,())
 |false=>match(ilt (w64 ((A2 b)-2)) a)with
 |true=>some (0,false,())
 |false=>match idx b a with|none=>none|some c=>match shl? .i64 (w64 c) 8 with|none=>none|some d=>match idx b (w64 (a+1))with|none=>none|some e=>some ((w64 ((BitVec.ofInt (IntKind.bits .i64) d ||| BitVec.ofInt (IntKind.bits .i64) (w64 e)).toNat)),true,())
def RJ[Lk]:=lkk TY
theorem Ye v:RJ v=TY v:=A0 _
def mT[Lk]:(U2×U2×Unit)->Option (U9):=fun(a,b,_)=>
 match Bj ((a.1,(a.2.1,())),(b.1,(b.2.1,())),())with|none=>none|some (c,_)=>some (c,())
def C4[Lk]:=lkk mT
theorem sM v:C4 v=mT v:=A0 _
abbrev AaU:Loc×Con:=(.tmp 3,.clo 107 [])
abbrev UT:A1:=[AaP,AI,AJ,AaU]
abbrev AaV:Loc×Con:=(.obj 0,.own 152 U1)
abbrev JW:A1:=[AaV]
abbrev ARJ:A1:=[AaV,Ao,AI,AJ,AaU,AT,Ah]
abbrev ARI:BH:=[(.exit 2,[AaV,Ao,AI,AJ,AaU,AT])]
abbrev ARK:A1:=[AaV,Ao,AI,AJ,AaU,AT]
abbrev lh:BH:=[(.exit 0,[AaV])]
def AT8[Lk]:=Qj ((0,(0,(0,(false,())))):U2) C4 tLt
def AVK[Lk]:=zH ((0,(0,(0,(false,())))):U2) C4 tLt
theorem ARL v:AVK v=AT8 v:=A0 _
abbrev AaW:Loc×Con:=(.tmp 4,.clo 107 [])
abbrev J_:A1:=[AaP,AI,AJ,AX,AaW]
abbrev AJ4:A1:=[AaV,Ao,AJ,AX,AaW,Ad]
abbrev AJ3:BH:=[(.exit 0,[AaV]),(.ret,[AaV])]
def APn[Lk]:=Lz ((0,(0,(0,(false,())))):U2) C4 tLt
def ASl[Lk]:=WL ((0,(0,(0,(false,())))):U2) C4 tLt
theorem AJ5 v:ASl v=APn v:=A0 _
abbrev AMz:A1:=[AaV,Ao,AaU,AT,Ah,AR]
abbrev AMx:BH:=[(.exit 2,[AaV])]
abbrev AM0:A1:=[AaV,Ao,AaU,AT,Ah,Ad,Ae]
abbrev AMy:BH:=[(.exit 0,[AaV,Ao,AaU,AT,Ah,Ad])]
def ARd[Lk]:=MW ((0,(0,(0,(false,())))):U2) C4 tLt
def ASz[Lk]:=bX ((0,(0,(0,(false,())))):U2) C4 tLt
theorem AM1 v:ASz v=ARd v:=A0 _
abbrev AIi:A1:=[AaV,Ao,AI,AT,(.tmp 9,.box 1),Aq,Ar,Ae]
def AOS[Lk]:=Js ((0,(0,(0,(false,())))):U2) C4 tLt
def breakT[Lk]:=Q_ ((0,(0,(0,(false,())))):U2) C4 tLt
theorem AIj v:breakT v=AOS v:=A0 _
abbrev AFe:A1:=[AaP,AI,AJ,As,AQ,AaW]
abbrev AFd:A1:=[AaV,At,AQ,AB,AI]
def AFf[Lk]:=G3 ((0,(0,(0,(false,())))):U2) C4 tLt
def AB5[Lk]:=IV ((0,(0,(0,(false,())))):U2) C4 tLt
theorem yE v:AB5 v=AFf v:=A0 _
abbrev AF3:A1:=[AaP,AI,AJ,AX,Au,AQ,(.tmp 5,.clo 107 [])]
abbrev gm:A1:=[AaV,At,AQ,AB]
def AF4[Lk]:=G6 ((0,(0,(0,(false,())))):U2) C4 tLt
def ACI[Lk]:=IX ((0,(0,(0,(false,())))):U2) C4 tLt
theorem yU v:ACI v=AF4 v:=A0 _
abbrev AGF:A1:=[AaP,AI,Av,AQ,AaU]
def AGG[Lk]:=G7 ((0,(0,(0,(false,())))):U2) C4 tLt
def ACN[Lk]:=IY ((0,(0,(0,(false,())))):U2) C4 tLt
theorem yZ v:ACN v=AGG v:=A0 _
abbrev ALF:A1:=[AaV,AB,AI]
def ALG[Lk]:=JL ((0,(0,(0,(false,())))):U2) C4 tLt
def ALI[Lk]:=QM ((0,(0,(0,(false,())))):U2) C4 tLt
theorem AE7 v:ALI v=ALG v:=A0 _
abbrev AP2:A1:=[AaV,Ao,AT,Ah]
def ATJ[Lk]:=QH ((0,(0,(0,(false,())))):U2) C4 tLt
def AU4[Lk]:=wU ((0,(0,(0,(false,())))):U2) C4 tLt
theorem AP3 v:AU4 v=ATJ v:=A0 _
abbrev xa:A1:=[AaV,AF]
abbrev qZ:A1:=[AaV,Ao,AI,AJ,AaU,Ah,Ad,AR]
abbrev qV:BH:=[(.exit 6,[AaV,Ao,AI,AJ,AaU,Ah,Ad])]
abbrev qa:A1:=[AaV,Ao,AI,AJ,AaU,Ah,Ad,Ae]
abbrev qW:BH:=[(.exit 4,[AaV,Ao,AI,AJ,AaU,Ah,Ad])]
abbrev WZ:A1:=[AaV,Ao,AI,AJ,AaU,Ah,Ad]
abbrev qX:BH:=[(.exit 2,[AaV,Ao,AI,AJ,AaU,Ah,Ad])]
abbrev qY:BH:=[(.ret,[AaV,Aw]),(.exit 0,[AaV])]
def xb[Lk]:=FZ ((0,(0,(0,(false,())))):U2) C4 tLt
def qc[Lk]:=JO ((0,(0,(0,(false,())))):U2) C4 tLt
theorem qb v:qc v=xb v:=A0 _
abbrev AFR:A1:=[AaV,AB]
abbrev QO:A1:=[AaV,Ao,AI,AaW,Ae,AR]
abbrev xm:BH:=[(.exit 4,[AaV,Ao,AI,AaW,Ae,AR])]
abbrev xn:BH:=[(.exit 2,[AaV,Ao,AI,AaW,Ae,AR])]
abbrev xo:BH:=[(.exit 0,[AaV,Ae])]
def AFS[Lk]:=G2 ((0,(0,(0,(false,())))):U2) C4 tLt
def AB1[Lk]:=L7 ((0,(0,(0,(false,())))):U2) C4 tLt
theorem xp v:AB1 v=AFS v:=A0 _
abbrev AQi:A1:=[AaV,AB,Ax]
abbrev Nd:A1:=[AaV,Ao,AI,AaW,AR,AS]
abbrev ALg:BH:=[(.exit 8,[AaV,Ao,AI,AaW,AR,AS])]
abbrev ALh:BH:=[(.exit 6,[AaV,Ao,AI,AaW,AR,AS])]
abbrev ALi:BH:=[(.exit 4,[AaV,Ao,AI,AS])]
abbrev ALj:BH:=[(.exit 2,[AaV,Ao,AI,AaW,AR,AS])]
abbrev ALk:BH:=[(.exit 0,[AaV,Ao,AI,AaW,AR,AS])]
def AQj[Lk]:=L6 ((0,(0,(0,(false,())))):U2) C4 tLt
def ASr[Lk]:=R5 ((0,(0,(0,(false,())))):U2) C4 tLt
theorem ALl v:ASr v=AQj v:=A0 _
abbrev ABr:A1:=[AaV,Ao,AI,AJ,AX,AaW,Az,Ay]
abbrev ABq:BH:=[(.ret,[AaV])]
def ABp[Lk]:=KD ((0,(0,(0,(false,())))):U2) C4 tLt
def ATd[Lk]:=QN ((0,(0,(0,(false,())))):U2) C4 tLt
def Z6[Lk]:=JN ((0,(0,(0,(false,())))):U2) C4 tLt
def AQT[Lk]:=xW ((0,(0,(0,(false,())))):U2) C4 tLt
theorem AQS v:AQT v=Z6 100 v:=A0 _
abbrev APb:A1:=[AaP,(.tmp 1,.clo 107 [])]
def APc[Lk]:=Lx ((0,(0,(0,(false,())))):U2) C4 tLt
def ABW[Lk]:=fh ((0,(0,(0,(false,())))):U2) C4 tLt
theorem AJu v:ABW v=APc v:=A0 _
def mO[Lk]:(Uc×Int×Unit)->Option (Ua):=fun(a,b,_)=>
 some ((ile (w64 ((A2 a.2.1)+b)) 400),())
def ACb[Lk]:=lkk mO
theorem sI v:ACb v=mO v:=A0 _
abbrev mv:A1:=[AZS,At,AZR,AZT,(.tmp 0,.win' 0)]
abbrev eU:A1:=[AZS,At,AZR,AZT,Ao,AZQ,AG,AY3]
abbrev eT:BH:=[(.exit 0,[AZS,At,AZR,AZT,Ao,AG])]
def Ha[Lk]:(List U4×List Vg×Int×Int×Unit)->Option ((List U4×List Vg×Int×Int×Unit)⊕(List U4×List Vg×Int×Unit)⊕Unit):=fun(a,d,c,b,_)=>
 match(ilt b (A2 a))with
 |true=>match idx a b with|none=>none|some e=>match(!(ieq ((A_ d ((A9 a (A4 b) (0,(0,()))).1,((A9 a (A4 b) (0,(0,()))).2.1,()))).getD 0) 0))with
  |true=>match idx a c with|none=>none|some f=>some (.inl ((Bc a (A4 c) ((A9 a (A4 b) (0,(0,()))).1,((A9 a (A4 b) (0,(0,()))).2.1,()))),d,(w64 (c+1)),(w64 (b+1)),()))
  |false=>some (.inl (a,d,c,(w64 (b+1)),()))
 |false=>some (.inr (.inl (a,d,c,())))
def Mi[Lk]:(List U4×List Vg×Unit)->Option ((List U4×List Vg×Int×Unit)):=fun(g,h,_)=>
 match Qq (g,h,())with|none=>none|some (c,e,d,_)=>match(ieq d (-1:Int))with
 |true=>some (c,e,(A2 c),())
 |false=>match A8 Ha many (c,e,d,(w64 (d+1)),())with|none=>none|some r=>match r with
 |.inl (a,i,b,_)=>match Ci a b (A2 a)with|none=>none|some f=>match Ci (Cd (A4 b) (A4 (A2 f)) (0,(0,())) a) 0 b with|none=>none|some j=>some ((Cd (A4 b) (A4 (A2 f)) (0,(0,())) a),i,(((A4 (A2 j)):Nat):Int),())
 |.inr _=>none
def Mj[Lk]:=lkk Mi
theorem Pn v:Mj v=Mi v:=A0 _
def Qs[Lk]:U9->Option (Ua):=fun(a,_)=>
 match(ile 0 a)with
 |true=>some ((ile a 1099511627776),())
 |false=>some (false,())
def N1[Lk]:=lkk Qs
theorem Wo v:N1 v=Qs v:=A0 _
def AJF[Lk]:U9->Option (Ua):=fun(a,_)=>
 match(ile 1 a)with
 |true=>some ((ile a 3),())
 |false=>some (false,())
def wb1[Lk]:=lkk AJF
theorem AJE v:wb1 v=AJF v:=A0 _
def fX{R:Type}(slot:Nat)(H:List Ob)(fz:List Bool)(k:AV->Eff->Option R)(v:AV)(e:Eff):Option R:=
 match e.heap with
 |none=>match v with
  |.win id 0 n=>match(DB e H)[id]? with
   |some (.arr T t xs)=>match BN (FN e fz) id&&Bd (DB e H) (FN e fz) (slot+3)&&(e.objs.any fun p=>Nat.beq p.1 id)with
    |true=>k (.own (slot+3)) { objs:=e.objs++[(id,.dead),(slot+3,.arr T t (C5 n xs))],frz:=e.frz }
    |false=>none
   |_=>none
  |_=>none
 |some _=>none
def Hk(s:Spec):Spec:=fun R args H fz slot k=>s R args H fz slot (fX slot H fz k)
section
variable {P:Program} {g:FuncId}
theorem AHJ{w:World}{F:Nat->Prop}{m:Mp}{H:List Ob}{fz:List Bool}(hi:HI w F m H fz){id n slot:Nat}{T:TypeId}{t:Ty}{xs:List t.den}(i:H[id]? = some (.arr T t xs))(A:BN fz id=true)
  (o:Bd H fz slot=true) {u:Value} (e:Rep w F m H (.win id 0 n) u) :
  ∃ f,BS w F m H fz w F f ((H.set id .dead).set slot (.arr T t (C5 n xs))) fz/\Rep w F f ((H.set id .dead).set slot (.arr T t (C5 n xs))) (.own slot) u:=by
 have c:=hi.obj id _ i;obtain⟨B,c⟩:=c;unfold Rep at e;rw[i]at e;obtain⟨q,e⟩:=e;rw[AWs]at q;have r:slot≠id:=mW o i;have d:=BS.kill hi (DG i A);have zero:∀ a,n=0->u = .slice a 0 0->∃ f,BS w F m H fz w F f ((H.set id .dead).set slot (.arr T t (C5 n xs))) fz/\Rep w F f ((H.set id .dead).set slot (.arr T t (C5 n xs))) (.own slot) u:=by intro a I J;subst I;subst J;obtain⟨f,s,j⟩:=Ek (w:=w) d.2 (MK o r) T B a;exact⟨f,d.trans s,j⟩
 cases v:m id with
  |none=>rw[v]at e c;obtain⟨a,C⟩:=e;simp_all
  |some p=>
   obtain⟨b,cap⟩:=p;rw[v]at e c;obtain⟨vs,y,C,O,K,L,M,Q⟩:=c;obtain⟨a,rfl,N⟩:=e;rcases AW9 cap with D|D;simp_all;have:=N D;rw[AXt]at this;subst this;have E:=fun(x:t.den) cs (h:Dat w F t x cs)=>Dat.length t h;have k:(xs.take n).length=n:=by grind
   have l:=Ew E n M;have z:=Bv E l;rw[k]at z;have s:=BS.move (w':=w) hi (DG i A) v o (ob:=.arr T t (C5 n xs)) trivial (b':=b) (c':=cap) (.inl rfl) rfl rfl rfl (AV8 _) (fun _ _ _=>rfl) (fun _=>⟨B,vs,y.take (n*t.size),C,by
    show(xs.take n).length<=cap;omega,K,L,l,by
    grind⟩)
   refine⟨_,s,?_⟩;have G:=BU (B8 o).1;unfold Rep;rw[Bk (by grind),BY];show Value.slice _ n (cap-0)=Value.slice _ (xs.take n).length cap;grind
theorem pJ{s:Spec}(l:BW P g s):BW P g (Hk s):=by
 intro R args H fz slot k r o;obtain⟨v,e,a,p,q,x⟩:=l R args H fz slot _ r o;unfold fX at a;split at a;rename_i f;split at a;rename_i id n;split at a;rename_i T t xs i;split at a;rename_i d;refine⟨_,_,a,fun E G => ?_,q,fun w F m b hi y => ?_⟩;unfold Hk;rw[p];simp only[fX,f,i,d];refine(x w F m b hi y).mono ?_;rintro I w' ⟨u,rfl,z,J,j,c⟩;simp only[AV5]at d;obtain⟨A,h,B⟩:=AHJ j.2 i d.1.1 d.1.2 c;have C:DB { objs:=e.objs++[(id,.dead),(slot+3,.arr T t (C5 n xs))],frz:=e.frz } H=((DB e H).set id .dead).set (slot+3) (.arr T t (C5 n xs)):=by rw[DI rfl,DI f,WS];rfl
 have D:FN { objs:=e.objs++[(id,.dead),(slot+3,.arr T t (C5 n xs))],frz:=e.frz } fz=FN e fz:=by rw[DY rfl,DY f]
 refine⟨u,rfl,z,A,?_,?_⟩;rw[C,D];exact j.trans h;grind;grind;grind;grind;grind
theorem KH{np b:Nat}{a outs:A1}{rs:List RS}{f:Be (leaves a)->Option (Be (leaves outs))}(d:∀ x,f x=none):BW P g (Bb np b a outs rs f):=by intro R args H fz slot k r c;unfold Bb at c;grind
end
section
variable {S:List Nat} {H H':List Ob}
theorem HP.AD0{s:Spec}(h:HP s):Ik s:=
 fun R args H H' fz fz' slot k S c _ b=>h R args H H' fz fz' slot k ⟨fun id a=>b.heap id (c id a),b.slotH,b.slotF,b.len,fun id a=>by cases a⟩
def Wi:A1->Bool
 |[]=>true
 |(.obj _,_)::_=>false
 |_::r=>Wi r
def ATR(S:List Nat)(v:AV):Prop:=∀ id∈BT v,id∈S
def c6(S:List Nat)(a:List Bnd):Prop:=∀ b∈a,∀ id,b.id? = some id->id∈S
theorem c6.get{a:List Bnd}(h:c6 S a){j:Nat}{b:Bnd}{id:Nat}(c:a[j]? = some b)(hi:b.id? = some id):id∈S:=h b (AWA c) id hi
theorem c6.snoc{c:List Bnd}(h:c6 S c){b:Bnd}(d:∀ id,b.id? = some id->id∈S):c6 S (c++[b]):=by intro x a id hi;rcases AWL.1 a with a|a;exact h x a id hi;grind
theorem ACS{g:List AV}{h:List Bnd}{l:Loc}(k:∀ id∈B0 g,id∈S)(n:Ya S H)(p:∀ id∈S,H[id]? = H'[id]?)(q:c6 S h)(u:∀ j,l≠.obj j):
  look (lk g) H h l=look (lk g) H' h l/\∀ v,look (lk g) H h l=some v->ATR S v:=by
 cases l with
  |tmp t=>refine⟨rfl,fun v e id d=>k id ?_⟩;exact Da (AWA e) d
  |cell j c=>
   simp only[look];cases r:h[j]? with
    |none=>simp
    |some b=>
     cases b with
      |none=>simp
      |cut id=>simp
      |whole id=>
       have d:=q.get r (id:=id) rfl;simp only;rw[p id d];refine⟨rfl,fun v e => ?_⟩;cases s:H'[id]? with
        |none=>grind
        |some o=>
         rw[s]at e;cases o<;>simp only at e<;>first|grind|skip
         rename_i cs;intro i hi;exact n id d cs (by grind) i (Da (AWA e) hi)
  |cap t i=>
   refine⟨rfl,fun v e => ?_⟩;simp only[look]at e;cases m:lk g t with
    |none=>grind
    |some a=>
     rw[m]at e;cases a<;>simp only at e<;>first|grind|skip
     rename_i f cs;intro id d;refine k id (Da (AWA (show g[t]? = _ from m)) ?_);simp only[BT];exact Da (AWA e) d;rename_i f cs;intro id d;refine k id (Da (AWA (show g[t]? = _ from m)) ?_);simp only[BT];exact Da (AWA e) d
  |obj j=>grind
theorem L0{f:List Nat}{fz fz':List Bool}(a:fz.length=fz'.length){id:Nat}(h:fz.getD id false=fz'.getD id false):(BK f fz).getD id false=(BK f fz').getD id false:=by rw[Bg,Bg,h,a]
theorem AN1{y:List AV}(J:∀ id∈B0 y,id∈S)(K:Ya S H)(C:∀ id∈S,H[id]? = H'[id]?):∀ (z:A1) (fz fz':List Bool) (i:List Bnd),Wi z=true->c6 S i->fz.length=fz'.length->(∀ id∈S,fz.getD id false=fz'.getD id false) ->
  dec (lk y) H z fz i=dec (lk y) H' z fz' i:=by
 intro z;induction z with
  |nil=>intro fz fz' i _ _ _ _;rfl
  |cons p r G=>
   intro fz fz' i F m A I;obtain⟨l,c⟩:=p;have E:(∀ j,l≠.obj j)/\Wi r=true:=by
    cases l with
     |obj j=>cases F
     |tmp t=>exact⟨fun j h=>(by cases h),F⟩
     |cell a b=>exact⟨fun j h=>(by cases h),F⟩
     |cap a b=>exact⟨fun j h=>(by cases h),F⟩
   obtain⟨o,D⟩:=ACS J K C m E.1;have g:=fun i m=>G fz fz' i E.2 m A I;have B:∀ id∈S,BN fz id=BN fz' id:=fun id d=>by unfold BN;grind
   cases c with
    |dat t=>
     simp only[dec,<- o];cases s:look (lk y) H i l with
      |none=>rfl
      |some v=>
       simp only;rw[XB t v fun id d=>C id (D v s id d)];cases c9 H' t v with
        |none=>rfl
        |some q=>obtain⟨x,f⟩:=q;simp only;rw[G (BK f fz) (BK f fz') i E.2 m (by rw[D4,D4,A]) (fun id d=>L0 A (I id d))]
    |own T e=>
     simp only[dec,<- o];cases s:look (lk y) H i l with
      |none=>rfl
      |some v=>
       cases v with
        |nils L=>simp only;rw[g _ (m.snoc fun id h=>by cases h)]
        |own id=>have d:id∈S:=D _ s id (by simp[BT]);simp only;rw[<- C id d,B id d,g _ (m.snoc fun w h=>by simp only[Bnd.id?,AV3]at h;grind)]
        |win id off n=>
         have d:id∈S:=D _ s id (by simp[BT]);cases off with
          |succ off=>rfl
          |zero=>simp only;rw[<- C id d,B id d,g _ (m.snoc fun w h=>by simp only[Bnd.id?,AV3]at h;grind)]
        |_=>rfl
    |box n=>
     simp only[dec,<- o];cases s:look (lk y) H i l with
      |none=>rfl
      |some v=>
       cases v with
        |ptr id off=>
         have d:id∈S:=D _ s id (by simp[BT]);cases off with
          |succ off=>rfl
          |zero=>simp only;rw[<- C id d,g _ (m.snoc fun w h=>by simp only[Bnd.id?,AV3]at h;grind)]
        |_=>rfl
    |map k v=>
     simp only[dec,<- o];cases s:look (lk y) H i l with
      |none=>rfl
      |some u=>
       cases u with
        |mp id=>have d:id∈S:=D _ s id (by simp[BT]);simp only;rw[<- C id d,g _ (m.snoc fun w h=>by simp only[Bnd.id?,AV3]at h;grind)]
        |_=>rfl
    |rows T e t=>
     simp only[dec,<- o];cases s:look (lk y) H i l with
      |none=>rfl
      |some u=>
       cases u with
        |own id=>have d:id∈S:=D _ s id (by simp[BT]);simp only;rw[<- C id d,B id d,g _ (m.snoc fun w h=>by simp only[Bnd.id?,AV3]at h;grind)]
        |_=>rfl
    |mrows j e t=>
     simp only[dec,<- o];cases s:look (lk y) H i l with
      |none=>rfl
      |some u=>
       cases u with
        |mp id=>have d:id∈S:=D _ s id (by simp[BT]);simp only;rw[<- C id d,B id d,g _ (m.snoc fun w h=>by simp only[Bnd.id?,AV3]at h;grind)]
        |_=>rfl
    |aptr T e n=>
     simp only[dec,<- o];cases s:look (lk y) H i l with
      |none=>rfl
      |some u=>
       cases u with
        |aptr id M=>have d:id∈S:=D _ s id (by simp[BT]);simp only;rw[<- C id d,B id d,g _ (m.snoc fun w h=>by simp only[Bnd.id?,AV3]at h;grind)]
        |_=>rfl
    |aptr' j n=>simp only[dec,<- o,g i m]
    |bndp f j=>simp only[dec,<- o,g i m]
    |nilp=>simp only[dec,<- o,g i m]
    |own' j=>simp only[dec,<- o,g i m]
    |ptr' j off=>simp only[dec,<- o,g i m]
    |map' j=>simp only[dec,<- o,g i m]
    |sub' j=>simp only[dec,<- o,g i m]
    |win' j=>
     simp only[dec,<- o];rw[g i m];cases s:look (lk y) H i l with
      |none=>rfl
      |some v=>
       cases v with
        |own id=>have d:id∈S:=D _ s id (by simp[BT]);grind
        |win id off n=>grind
        |_=>simp
    |clo f N=>simp only[dec,<- o,g i m]
    |bnd f j=>simp only[dec,<- o,g i m]
    |prs T j=>
     simp only[dec,<- o];cases s:look (lk y) H i l with
      |none=>rfl
      |some v=>
       cases v with
        |nils L=>simp only;rw[g _ (m.snoc fun id h=>by cases h)]
        |own id=>have d:id∈S:=D _ s id (by simp[BT]);simp only;rw[<- C id d,g _ (m.snoc fun w h=>by simp only[Bnd.id?,AV3]at h;grind)]
        |_=>rfl
    |nil e=>simp only[dec,<- o,g i m]
theorem Sj{fz fz':List Bool}:∀ (n:Nat) (a:List Bnd) (slot:Nat),(∀ s,slot<=s->s<slot+n->Bd H fz s=Bd H' fz' s)->GN H fz (DT n a slot) a=GN H' fz' (DT n a slot) a:=by
 intro n;induction n with
  |zero=>intro a slot _;cases a<;>rfl
  |succ n c=>
   intro a slot h;cases a with
    |nil=>simp only[DT,GN,List.tail_nil];grind
    |cons b a=>
     cases b with
      |whole id=>simp only[DT,GN,AXj];grind
      |none=>simp only[DT,GN,AXj];grind
      |cut id=>simp only[DT,GN,AXj];grind
theorem Co{np j:Nat}{a outs:A1}{rs:List RS}{f:Be (leaves a)->Option (Be (leaves outs))}(d:Wi a=true)(l:Nat.ble (Di outs) 4=true):Ik (Bb np j a outs rs f):=by intro R args H H' fz fz' slot k S m n c;have o:=AWl l;have hd:dec (lk args) H a fz []=dec (lk args) H' a fz' []:=AN1 m n c.heap a fz fz' [] d (fun b p=>by cases p) c.len c.wrF;unfold Bb;rw[hd];split;rfl;rename_i x h e _;split;rfl;split;rfl;have i:∀ (g:List Nat) s,slot<=s->s<slot+Di outs->Bd H (BK g fz) s=Bd H' (BK g fz') s:=fun g s q r=>E3 c q (by omega) g;unfold Jt;rw[Sj (fz:=fz) (fz':=fz') (Di outs) (h.take np) slot (i []),Sj (fz:=BK e fz) (fz':=BK e fz') (Di outs) (h.take np) slot (i e)]
theorem AG6:∀ (n:Nat) (a:List Bnd) (slot i:Nat),i∈DT n a slot->(∃ b∈a,b.id? = some i)\/(slot<=i/\i<slot+n):=by
 intro n;induction n with
  |zero=>intro a slot i h;cases a<;>cases h
  |succ n f=>
   intro a slot i h;have next:∀ c,i∈slot::DT n c (slot+1)->(∃ b∈c,b.id? = some i)\/(slot<=i/\i<slot+(n+1)):=by grind
   cases a with
    |nil=>exact next [] h
    |cons b a=>
     cases b with
      |whole id=>simp only[DT]at h;rcases AWO.1 h with rfl|h;exact .inl ⟨.whole i,by simp,rfl⟩;grind
      |none=>rcases next a h with⟨b,d,e⟩|h;all_goals grind
      |cut id=>rcases next a h with⟨b,d,e⟩|h;all_goals grind
theorem AH6{w:List AV}(C:∀ id∈B0 w,id∈S)(D:Ya S H):∀ (o:A1) (fz:List Bool) (u:List Bnd) (x:Be (leaves o)) (q:List Bnd) (z:List Nat),Wi o=true->c6 S u ->
  dec (lk w) H o fz u=some (x,q,z)->c6 S q:=by
 intro o;induction o with
  |nil=>intro fz u x q z _ m h;simp only[dec,AV3]at h;grind
  |cons p r g=>
   intro fz u x q z y m h;obtain⟨l,c⟩:=p;have d:(∀ j,l≠.obj j)/\Wi r=true:=by
    cases l with
     |obj j=>cases y
     |tmp t=>exact⟨fun j h=>(by cases h),y⟩
     |cell a b=>exact⟨fun j h=>(by cases h),y⟩
     |cap a b=>exact⟨fun j h=>(by cases h),y⟩
   have s:=(ACS (H':=H) C D (fun _ _=>rfl) m d.1 (l:=l)).2;have one:∀ {id:Nat} {b:Bnd},id∈S->b.id? = some id->c6 S (u++[b]):=fun E B=>m.snoc fun F G=>by grind
   cases c<;>simp only[dec]at h
   case dat t=>
    grind
   case own T e=>
    split at h
    ·split at h
     ·split at h
      ·rename_i hd;cases h;exact g _ _ _ _ _ d.2 (m.snoc fun id h=>by cases h) hd
      grind
     grind
    ·rename_i id i
     split at h
     ·split at h
      ·split at h
       ·rename_i hd;cases h;exact g _ _ _ _ _ d.2 (one (s _ i id (by simp[BT])) rfl) hd
       grind
      grind
     grind
    ·rename_i id n i
     split at h
     ·split at h
      ·split at h
       ·rename_i hd;cases h;exact g _ _ _ _ _ d.2 (one (s _ i id (by simp[BT])) rfl) hd
       grind
      grind
     grind
    grind
   case prs T j=>
    split at h
    ·split at h
     ·rename_i hd;cases h;exact g _ _ _ _ _ d.2 (m.snoc fun id h=>by cases h) hd
     grind
    ·rename_i id i
     split at h
     ·split at h
      ·split at h
       ·rename_i hd;cases h;exact g _ _ _ _ _ d.2 (one (s _ i id (by simp[BT])) rfl) hd
       grind
      grind
     grind
    grind
   case box n=>
    split at h
    ·rename_i id i
     split at h
     ·split at h
      ·exact g _ _ _ _ _ d.2 (one (s _ i id (by simp[BT])) rfl) h
      grind
     grind
    grind
   case map k v=>
    split at h
    ·rename_i id i
     split at h
     ·split at h
      ·split at h
       ·rename_i hd;cases h;exact g _ _ _ _ _ d.2 (one (s _ i id (by simp[BT])) rfl) hd
       grind
      grind
     grind
    grind
   case rows T e t=>
    split at h
    ·rename_i id i
     split at h
     ·split at h
      ·split at h
       ·rename_i hd;cases h;exact g _ _ _ _ _ d.2 (one (s _ i id (by simp[BT])) rfl) hd
       grind
      grind
     grind
    grind
   case mrows j e t=>
    split at h
    ·rename_i id i
     split at h
     ·split at h
      ·split at h
       ·rename_i hd;cases h;exact g _ _ _ _ _ d.2 (one (s _ i id (by simp[BT])) rfl) hd
       grind
      grind
     grind
    grind
   case aptr T e n=>
    split at h
    ·rename_i id I i
     split at h
     ·split at h
      ·split at h
       ·rename_i hd;cases h;exact g _ _ _ _ _ d.2 (one (s _ i id (by simp[BT])) rfl) hd
       grind
      grind
     grind
    grind
   case bndp f j=>
    split at h
    ·split at h
     ·exact g _ _ _ _ _ d.2 m h
     grind
    grind
   case nilp=>
    cases A:look (lk w) H u l with
    |none=>grind
    |some v=>
     rw[A]at h
     cases v<;>simp only at h<;>first|exact g _ _ _ _ _ d.2 m h|cases h
   case aptr' j n=>
    split at h
    ·split at h
     ·exact g _ _ _ _ _ d.2 m h
     grind
    grind
   case own' j=>
    split at h
    ·split at h
     ·exact g _ _ _ _ _ d.2 m h
     grind
    grind
   case ptr' j off=>
    split at h
    ·split at h
     ·exact g _ _ _ _ _ d.2 m h
     grind
    grind
   case map' j=>
    split at h
    ·split at h
     ·exact g _ _ _ _ _ d.2 m h
     grind
    grind
   case win' j=>
    grind
   case sub' j=>
    grind
   case clo f ps=>
    split at h
    ·split at h
     ·exact g _ _ _ _ _ d.2 m h
     grind
    grind
   case bnd f j=>
    split at h
    ·split at h
     ·exact g _ _ _ _ _ d.2 m h
     grind
    grind
   case nil e=>
    cases A:look (lk w) H u l with
    |none=>grind
    |some v=>
     rw[A]at h
     cases v<;>simp only at h<;>first|exact g _ _ _ _ _ d.2 m h|cases h
theorem APY{np L:Nat}{a outs:A1}{rs:List RS}{f:Be (leaves a)->Option (Be (leaves outs))}(z:Wi a=true)(M:Nat.ble (Di outs) 4=true):Ik (Hk (Bb np L a outs rs f)):=by
 intro R args H H' fz fz' slot k E I J d;have N:=AWl M;have hd:dec (lk args) H a fz []=dec (lk args) H' a fz' []:=AN1 I J d.heap a fz fz' [] z (fun b w=>by cases w) d.len d.wrF;have A:∀ x c m,dec (lk args) H a fz []=some (x,c,m)->c6 E c:=fun x c m h=>AH6 I J a fz [] x c m z (fun b w=>by cases w) h;unfold Hk Bb;rw[hd]at A |-;split;rfl
 ·rename_i x c m B;have w:=A x c m B;split;rfl
  ·split;rfl
   ·rename_i y _;have K:∀ (g:List Nat) s,slot<=s->s<slot+Di outs->Bd H (BK g fz) s=Bd H' (BK g fz') s:=fun g s o C=>E3 d o (by omega) g;have O:∀ (e:Eff) (v:AV),e.heap=none->(∀ p∈e.objs,p.1∈given (c.drop np)\/p.1∈DT (Di outs) (c.take np) slot)->fX slot H fz k v e=fX slot H' fz' k v e:=by
     intro e v l P;unfold fX;rw[l];simp only;have F:Bd (DB e H) (FN e fz) (slot+3)=Bd (DB e H') (FN e fz') (slot+3):=by rw[DI l,DI l,DY l,DY l];unfold Bd;rw[HS e.objs H H' (d.slotH (slot+3) (by omega) (by omega)),L0 d.len (d.slotF (slot+3) (by omega) (by omega))]
     cases v with
      |win id off n=>
       cases off with
        |succ off=>rfl
        |zero=>
         simp only;cases q:(e.objs.any fun p=>Nat.beq p.1 id)with
          |false=>grind
          |true=>
           rw[AYT]at q;obtain⟨p,G,r⟩:=q;have r:=AWi r;subst r;have D:(∃ b∈c,b.id? = some p.1)\/(slot<=p.1/\p.1<slot+Di outs):=by rcases P p G with h|h;obtain⟨j,Q⟩:=VD.1 h;exact .inl ⟨_,AXi (AWA Q),rfl⟩;·rcases AG6 _ _ _ _ h with⟨b,o,C⟩|h;all_goals grind
           have o:H[p.1]? = H'[p.1]? := by
            rcases D with⟨b,t,u⟩|⟨o,C⟩
            exact d.heap _ (w b t _ u);exact d.slotH _ o (by omega)
           have C:fz.getD p.1 false=fz'.getD p.1 false:=by
            rcases D with⟨b,t,u⟩|⟨o,C⟩
            exact d.wrF _ (w b t _ u);exact d.slotF _ o (by omega)
           have T:(DB e H)[p.1]? = (DB e H')[p.1]? := by rw[DI l,DI l];exact HS e.objs H H' o
           have U:BN (FN e fz) p.1=BN (FN e fz') p.1:=by rw[DY l,DY l];unfold BN;rw[L0 d.len C]
           grind
      |_=>rfl
    have mem:∀ p∈(given (c.drop np)).map (fun i=>(i,Ob.dead))++(DT (Di outs) (c.take np) slot).zip ((encode (cellsOf rs) outs y).heap.map (ET (DT (Di outs) (c.take np) slot))),p.1∈given (c.drop np)\/p.1∈DT (Di outs) (c.take np) slot:=by intro p G;rcases AWL.1 G with h|h;grind;exact .inr (List.of_mem_zip h).1
    unfold Jt;rw[Sj (fz:=fz) (fz':=fz') (Di outs) (c.take np) slot (K []),Sj (fz:=BK m fz) (fz':=BK m fz') (Di outs) (c.take np) slot (K m)];split;·split;all_goals grind
    ·split;all_goals grind
end
def AS3(i:Nat)(args:List AV):Option FuncId:=
 match args[i]? with
 |some (.clo f _)=>some f
 |some (.bnd f _)=>some f
 |_=>none
def Env.XX(E:Env)(g:FuncId)(i:Nat)(c:FuncId)(s:Spec):Env where
 spec x:=match Nat.beq x g with
  |true=>fun R args H fz slot k=>match AS3 i args with
   |some c'=>match Nat.beq c' c with
    |true=>s R args H fz slot k
    |false=>E.spec x R args H fz slot k
   |.none=>Option.none
  |false=>E.spec x
 loc x:=match Nat.beq x g with
  |true=>false
  |false=>E.loc x
 G9 x:=match Nat.beq x g with
  |true=>E.G9 g
  |false=>E.G9 x
 pan x:=match Nat.beq x g with
  |true=>.none
  |false=>E.pan x
theorem Env.Su{P:Program}{E:Env}{g:FuncId}{i:Nat}{c:FuncId}{s:Spec}(h:Bn P E)(o:BW P g s)(f:Ik s):Bn P (E.XX g i c s):=by
 refine⟨?_,⟨?_,?_⟩,fun x p a => ?_⟩;intro x;simp only[Env.XX];cases a:Nat.beq x g with
  |false=>exact h.1 x
  |true=>have:=AWi a;subst this;intro R args H fz slot k r d;simp only at d;split at d;rename_i c' q;split at d;rename_i b;obtain⟨v,e,t,j,u,w⟩:=o R args H fz slot k r d;grind;rename_i b;obtain⟨v,e,t,j,u,w⟩:=h.1 x R args H fz slot k r d;grind;grind
 intro x a;simp only[Env.XX]at a |-;cases b:Nat.beq x g with
  |true=>grind
  |false=>rw[b]at a;exact h.2.1.1 x a
 intro x a;simp only[Env.XX]at a |-;cases b:Nat.beq x g with
  |true=>rw[b]at a;have:=AWi b;subst this;have j:=h.2.1.2 x a;intro R args H H' fz fz' slot k S l m n;simp only;split;split;exact f R args H H' fz fz' slot k S l m n;exact j R args H H' fz fz' slot k S l m n;rfl
  |false=>rw[b]at a;exact h.2.1.2 x a
 simp only[Env.XX]at a |-;cases b:Nat.beq x g with
  |true=>grind
  |false=>rw[b]at a;exact h.2.2 x p a
def ry:List Value->Option (List (IntKind×Int))
 |[]=>some []
 |.int k n::r=>(ry r).map ((k,n) :: ·)
 |_::_=>none
def APG:Exit->Option PV
 |.panic [⟨.iface T (.agg a),false,false⟩]=>(ry a.toList).map fun l=>(T,l)
 |_=>none
def gU(T:TypeId)(a:List IntKind)(e:Exit):Option (List Int):=
 match APG e with
 |some (T',l)=>match decide (T'=T)&&decide (l.map (·.1)=a)with
  |true=>some (l.map (·.2))
  |false=>none
 |none=>none
def AO7:List IntKind->List Int->List (IntKind×Int)
 |[],_=>[]
 |k::ks,ns=>(k,ns.headD 0)::AO7 ks ns.tail
def wm(T:TypeId)(a:List IntKind)(b:List Int):PV:=(T,AO7 a b)
theorem AMl:∀ {vs:List Value} {l:List (IntKind×Int)},ry vs=some l->vs=l.map fun p=>Value.int p.1 p.2:=by
 intro vs;induction vs with
  |nil=>intro l h;simp only[ry,AV3]at h;grind
  |cons v vs b=>intro l h;unfold ry at h;split at h;grind;rename_i k n r a;cases a;simp only[AWE]at h;grind;grind
theorem ABI{e:Exit}{p:PV}(h:APG e=some p):e = .panic [Cu p]:=by unfold APG at h;split at h;rename_i T a;simp only[AWE]at h;obtain⟨l,b,rfl⟩:=h;have:=AMl b;simp only[Cu,Kd];rw[<- this];grind
theorem qF{T:TypeId}{a:List IntKind}{e:Exit}{b:List Int}(h:gU T a e=some b):e = .panic [Cu (wm T a b)]:=by
 unfold gU at h;split at h;rename_i g l d;split at h;rename_i c;simp only[AV5,AV4]at c;obtain⟨rfl,rfl⟩:=c;simp only[AV3]at h;subst h;rw[ABI d];unfold wm;have:∀ l:List (IntKind×Int),AO7 (l.map (·.1)) (l.map (·.2))=l:=by
  intro l;induction l with
   |nil=>rfl
   |cons p l f=>simp only[AWW,AO7,AYK,AXj,f]
 rw[this];grind;grind
noncomputable section
abbrev AO2(os:BH)(pits:A1):Type:=dJ os⊕(List Int×Be (leaves pits))
def T3(np f:Nat)(b:A1)(os:BH)(T:TypeId)(g:List IntKind)(a:A1)(e:Exit)(st:St):Option (Be (leaves b)⊕AO2 os a):=
 match e with
 |.normal=>match decode np f st b with
  |some d=>some (.inl d)
  |none=>none
 |.panic c=>match gU T g (.panic c)with
  |some h=>match decode np f st a with
   |some d=>some (.inr (.inr (h,d)))
   |none=>none
  |none=>none
 |e=>match Wg np f e st os with
  |some x=>some (.inr (.inl x))
  |none=>none
def zO(b:Nat){R:Type}(T:TypeId)(c:List IntKind)(a:A1)(k:Exit->St->Option R)(os:BH):AO2 os a->Option R
 |.inl r=>bc b k os r
 |.inr q=>k (.panic [Cu (wm T c q.1)]) (encode b a q.2)
def MD[Lk](np c:Nat)(b:A1)(os:BH)(T:TypeId)(d:List IntKind)(a:A1)(step:Be (leaves b)->Option (Be (leaves b)⊕AO2 os a)):dK:=fun R st k=>
 match decode np c st b with
 |none=>none
 |some v=>match A8 step many v with
  |none=>none
  |some r=>zO c T d a k os r
def JJ[Lk](P:Program)(E:Env)(h:Hints)(n np d:Nat)(c:Code)(a:A1)(os:BH)(T:TypeId)(e:List IntKind)(b:A1)(v:Be (leaves a)):Option (Be (leaves a)⊕AO2 os b):=
 Bl P E h _ c n (encode d a v) (T3 np d a os T e b)
def Cm[Lk](np:Nat)(P:Program)(E:Env)(h:Hints)(fn:Func)(b outs:A1)(rs:List RS)(T:TypeId)(d:List IntKind)(a:A1)(x:Be (leaves b)):Option (Be (leaves outs)⊕(List Int×Be (leaves a))):=
 match fn.body with
 |none=>none
 |some c=>Bl P E h _ c 0 (encode fn.ntmps b x) fun e st=>
  match e with
  |.normal=>match finish np P fn outs rs st with
   |some y=>some (.inl y)
   |none=>none
  |.ret=>match finish np P fn outs rs st with
   |some y=>some (.inl y)
   |none=>none
  |.panic c=>match gU T d (.panic c)with
   |some f=>match dec (lk []) st.heap a st.frz []with
    |some (z,bs,_)=>match pins np 0 bs&&(st.heap.take np).all CA with
     |true=>some (.inr (f,z))
     |false=>none
    |none=>none
   |none=>none
  |_=>none
def IJ(np c:Nat)(b outs:A1)(rs:List RS)(T:TypeId)(d:List IntKind)(a:A1)(f:Be (leaves b)->Option (Be (leaves outs)⊕(List Int×Be (leaves a)))):Lg:=fun R args H fz slot k kp=>
 match dec (lk args) H b fz []with
 |none=>none
 |some (x,bs,fr)=>match bs.all Bnd.ABH&&decide (bs.length=Di b)&&decide (args.length=c)&&(G4 b&&G4 outs&&G4 a)with
  |false=>none
  |true=>match f x with
   |none=>none
   |some (.inl y)=>Jt R (given (bs.drop np)) (bs.take np) fr rs (encode (cellsOf rs) outs y) (DT (Di outs) (bs.take np) slot) H fz k
   |some (.inr q)=>Jt R (given (bs.drop np)) (bs.take np) fr [] (encode 0 a q.2) (DT (Di a) (bs.take np) slot) H fz fun _ e=>kp (wm T d q.1) e
def DV{α β:Type}:Option (α⊕β)->Option α
 |some (.inl y)=>some y
 |_=>none
end
section
variable {P:Program} {E:Env}
theorem aX[DfI]{U:Hints}(hE:∀ g,BW P g (E.spec g))(hL:Eu E)(hP:Gg P E){np s n:Nat}{b:Code}{o:A1}{os:BH}{T:TypeId}{H:List IntKind}{f:A1}{stp:Be (leaves o)->Option (Be (leaves o)⊕AO2 os f)}
  (B:∀ v,stp v=JJ P E U n np s b o os T H f v) (hl:Bx P np U b n):Jy P np (.loop b) (MD np s o os T H f stp):=by
 intro R st k r C;unfold MD at C;split at C;cases C;rename_i v hv;split at C;cases C;rename_i x hx;have I:∃ e st',k e st'=some r/\∀ (J:Type) (D:Exit->St->Option J),zO s T H f D os x=D e st':=by
  cases x with
   |inl x=>exact iI os x C
   |inr q=>exact⟨_,_,C,fun _ _=>rfl⟩
 obtain⟨e,st',h1,h2⟩:=I;refine⟨e,st',h1,fun J D=>by simp only[MD,hv,hx];grind,?_⟩
 have V:∀ (i:Nat) (v:Be (leaves o)),BC stp i v=some x->∀ (w:World) (F:Nat->Prop) (m:Mp) (a:Act) (Q:Exit->Act->World->Prop),SI w F m (encode s o v) a ->
   (∀ u w' W X,SI w' W X st' u->Il np w F m (encode s o v).heap (encode s o v).frz w' W X st'.heap st'.frz->Q e u w')->Code.rounds P b Q i a w:=by
  intro i
  induction i with
  |zero=>intro v h;simp[BC]at h
  |succ i ih=>
   intro v h w F m a Q Y S
   simp only[BC]at h
   rw[B v]at h
   cases Z:JJ P E U n np s b o os T H f v with
   |none=>grind
   |some y=>
    rw[Z]at h
    unfold JJ at Z
    obtain⟨A,K,t,_,g3⟩:=DM hE hL hP b n hl _ _ _ _ Z
    show b.wp P (Exit.then (Code.rounds P b Q i) Q) a w
    refine g3 w F m a _ Y fun u w' W X s1 x1 => ?_
    have fin:∀ (j:A1) (d:Be (leaves j)),decode np s K j=some d->(∀ (J:Type) (D:Exit->St->Option J),zO s T H f D os x=D A (encode s j d))->Q A u w':=by
     intro j d o1 o2
     obtain⟨L,M,N,O⟩:=HE s1 o1
     have e3:=(h2 (Exit×St) fun e st=>some (e,st)).symm.trans (o2 (Exit×St) fun e st=>some (e,st))
     simp only[AV3,AWI]at e3
     obtain⟨rfl,rfl⟩:=e3
     exact S u w' L M N (x1.trans O)
    have p:A≠.normal->(∀ c,A≠.panic c)->Q A u w':=by
     intro hn hp
     have G:(match Wg np s A K os with
      |some x=>some (Sum.inr (Sum.inl x))
      |none=>none)=some y:=by
      cases A<;>first|grind|exact absurd rfl (hp _)|exact t
     split at G
     ·rename_i z hz
      simp only[AV3]at G;subst G
      simp only[AV3]at h;subst h
      obtain⟨j,d,o1,o2⟩:=rH os _ hz
      exact fin j d o1 o2
     grind
    cases A with
    |normal=>
     simp only[T3]at t
     split at t
     ·rename_i d hd
      simp only[AV3]at t;subst t
      obtain⟨L,M,N,O⟩:=HE s1 hd
      show Code.rounds P b Q i u w'
      exact ih d h w' L M u Q N fun a3 w3 F3 m3 s3 x3=>S a3 w3 F3 m3 s3 (x1.trans (O.trans x3))
     grind
    |panic c=>
     simp only[T3]at t
     split at t
     ·rename_i ns hns
      split at t
      ·rename_i d hd
       simp only[AV3]at t;subst t
       simp only[AV3]at h;subst h
       exact fin f d hd fun J D=>by rw[qF hns];rfl
      grind
     grind
    |exit id=>exact p (by simp) (by simp)
    |goto l=>exact p (by simp) (by simp)
    |ret=>exact p (by simp) (by simp)
    |outgrown=>exact p (by simp) (by simp)
 intro w F m a Q Y S;obtain⟨L,M,N,O⟩:=HE Y hv;exact wp_loop_rounds many (V many v (by rw[<- BR];exact hx) w L M a Q N fun a3 w3 F3 m3 s3 x3=>S a3 w3 F3 m3 s3 (O.trans x3))
variable {h:Hints} {g:FuncId} {fn:Func} {c:Code}
theorem qN(e:∀ g,BW P g (E.spec g))(f:Eu E)(i:Gg P E)(j:fn.body=some c){np:Nat}{a outs:A1}{rs:List RS}{T:TypeId}{k:List IntKind}{b:A1}(l:Bx P np h c 0)(x:Be (leaves a)){y:Be (leaves outs)}
  (d:Cm np P E h fn a outs rs T k b x=some (.inl y)):D5 np P E h fn a outs rs x=some y:=by unfold Cm at d;unfold D5;rw[j]at d |-;simp only at d |-;obtain⟨m,st',n,o,_⟩:=DM e f i c 0 l _ _ _ _ d;grind
theorem ARA(f:∀ g,BW P g (E.spec g))(i:Eu E)(j:Gg P E)(k:fn.body=some c){np:Nat}{a outs:A1}{rs:List RS}{T:TypeId}{m:List IntKind}{d:A1}(l:Bx P np h c 0)(x:Be (leaves a)):
  DV (Cm np P E h fn a outs rs T m d x)=D5 np P E h fn a outs rs x:=by
 cases e:Cm np P E h fn a outs rs T m d x with
  |some y=>
   cases y with
    |inl y=>exact(qN f i j k l x e).symm
    |inr q=>
     cases b:D5 np P E h fn a outs rs x with
      |none=>rfl
      |some y=>exfalso;unfold D5 at b;unfold Cm at e;rw[k]at e b;simp only at e b;obtain⟨n,st',o,p,_⟩:=DM f i j c 0 l _ _ _ _ b;grind
  |none=>
   cases b:D5 np P E h fn a outs rs x with
    |none=>rfl
    |some y=>exfalso;unfold D5 at b;unfold Cm at e;rw[k]at e b;simp only at e b;obtain⟨n,st',o,p,_⟩:=DM f i j c 0 l _ _ _ _ b;grind
theorem K8(hE:∀ g,BW P g (E.spec g))(hL:Eu E)(hP:Gg P E)(hf:P.funcs[g]? = some fn)(Z:fn.body=some c)(hc:H_ P g)
  {np J:Nat} (K:J<=fn.ntmps) {l outs:A1} {rs:List RS} {T:TypeId} {L:List IntKind} {b:A1} {f:Be (leaves l)->Option (Be (leaves outs)⊕(List Int×Be (leaves b)))} (C:∀ x,f x=Cm np P E h fn l outs rs T L b x) (hl:Bx P np h c 0) :
  Hf P g (Bb np J l outs rs fun x=>DV (f x)) (IJ np J l outs rs T L b f):=by
 intro R args H fz slot k kp r j;simp only[IJ]at j;split at j;cases j;rename_i x bs fr d;split at j;cases j;rename_i t;simp only[AV5,AV4]at t;obtain⟨⟨⟨a,u⟩,n⟩,⟨o,v⟩,A⟩:=t;split at j;cases j;rename_i y p;left;obtain⟨e,M,_,_,h5,_⟩:=TL j;refine⟨_,e,M,fun R' k' N => ?_,fun R' k' => ?_⟩;simp only[IJ,d,a,u,n,o,v,A,p,AWG,AXL];grind;simp only[Bb,d,a,u,n,o,v,p,DV,AWG,AXL];grind;rename_i q p;right;obtain⟨ns,z⟩:=q;simp only at j;obtain⟨e,M,O,Q,h5,S,U,V⟩:=TL j;refine⟨_,e,M,fun R' k' N => ?_,hc,fun w F m vals hi hr => ?_⟩;simp only[IJ,d,a,u,n,o,v,A,p,AWG,AXL];grind;rw[C x]at p;unfold Cm at p;rw[Z]at p;simp only at p;obtain⟨ex,st',B,_,g3⟩:=DM hE hL hP c 0 hl _ _ _ _ p;have D:∃ i s,ex = .panic [Cu (wm T L ns)]/\dec (lk []) st'.heap b st'.frz []=some (z,i,s)/\pins np 0 i=true:=by
  cases ex with
   |normal=>grind
   |ret=>grind
   |panic ch=>simp only at B;split at B;rename_i ns' W;split at B;rename_i z' i s hd;split at B;rename_i I;simp only[AV3,Sum.inr.injEq,AWI]at B;obtain⟨rfl,rfl⟩:=B;rw[AV5]at I;exact⟨i,s,qF W,hd,I.1⟩;grind;grind;grind
   |_=>grind
 obtain⟨i,s,rfl,X,I⟩:=D;refine calls_of_wp hf Z ?_;obtain⟨F2,m2,gA,G,Y⟩:=Q9 hi hr n K d;refine g3 w F2 m2 _ _ Y fun a' w' F' m' s1 x1 => ?_;obtain⟨F3,m3,hg,_⟩:=cz (rs:=[]) hi gA G a o A rfl rfl O Q S U V s1.heap x1 (vs:=[]) (us:=[]) Lf rfl X I;exact⟨s1.defers,rfl,F3,m3,hg⟩
theorem K6 (hE : Bn P E) (hf : P.funcs[g]? = some fn) (hb : fn.body.isSome = true) (hn : (fn.name == "runtime.NumGoroutine") = false) {np na : Nat} (hna : Nat.ble na fn.ntmps = true) {its outs : A1} {rs : List RS} {T : TypeId} {ks : List IntKind} {pits : A1}
  {f:Be (leaves its)->Option (Be (leaves outs)⊕(List Int×Be (leaves pits)))} (hfun:∀ x,f x=Cm np P E h fn its outs rs T ks pits x) (hl:Bx P np h (CE fn) 0):BW P g (Bb np na its outs rs fun x=>DV (f x)):=
 I7 hE hf hb hn hna (fun x=>by rw[hfun];exact ARA hE.1 hE.2.1 hE.2.2 (Gb hb) hl x) hl
def Env.mg(E:Env)(g:FuncId)(G9:Bool)(a:Spec)(s:Lg):Env where
 spec x:=match Nat.beq x g with
  |true=>a
  |false=>E.spec x
 loc x:=match Nat.beq x g with
  |true=>false
  |false=>E.loc x
 G9 x:=match Nat.beq x g with
  |true=>G9
  |false=>E.G9 x
 pan x:=match Nat.beq x g with
  |true=>some s
  |false=>E.pan x
theorem Env.YN{G9:Bool}{d:Spec}{s:Lg}(h:Bn P E)(i:BW P g d)(j:Hf P g d s)(e:G9=true->Ik d):Bn P (E.mg g G9 d s):=by
 refine⟨?_,⟨?_,?_⟩,fun x f a => ?_⟩;intro x;simp only[Env.mg];cases a:Nat.beq x g with
  |true=>simp_all
  |false=>exact h.1 x
 intro x a;simp only[Env.mg]at a |-;cases b:Nat.beq x g with
  |true=>grind
  |false=>rw[b]at a;exact h.2.1.1 x a
 intro x a;simp only[Env.mg]at a |-;cases b:Nat.beq x g with
  |true=>grind
  |false=>rw[b]at a;exact h.2.1.2 x a
 simp only[Env.mg]at a |-;cases b:Nat.beq x g with
  |true=>simp_all
  |false=>rw[b]at a;exact h.2.2 x f a
def AIT(i:Nat)(c:FuncId)(s:Lg)(a:Option Lg):Lg:=fun R args H fz slot k kp=>
 match AS3 i args with
 |some c'=>match Nat.beq c' c with
  |true=>s R args H fz slot k kp
  |false=>match a with
   |some a=>a R args H fz slot k kp
   |none=>none
 |none=>none
def Env.Wv(E:Env)(g:FuncId)(i:Nat)(c:FuncId)(a:Spec)(s:Lg):Env:=
 { E.XX g i c a with pan:=fun x=>match Nat.beq x g with
  |true=>some (AIT i c s (E.pan g))
  |false=>E.pan x }
theorem Env.sW{i:Nat}{c:FuncId}{j:Spec}{s:Lg}(h:Bn P E)(C:BW P g j)(D:Hf P g j s)(y:Ik j):Bn P (E.Wv g i c j s):=by
 have B:=Env.Su (i:=i) (c:=c) h C y;refine⟨B.1,B.2.1,fun x z q => ?_⟩;simp only[Env.Wv]at q;cases w:Nat.beq x g with
  |false=>
   rw[w]at q;have e:(E.Wv g i c j s).spec x=E.spec x:=by simp only[Env.Wv,Env.XX,w]
   rw[e];exact h.2.2 x z q
  |true=>
   rw[w]at q;have:=AWi w;subst this;simp only[AV3]at q;subst q;intro R args H fz slot k kp r t;unfold AIT at t;split at t;rename_i c' a;have e:∀ (b:Type) (f:AV->Eff->Option b),(E.Wv x i c j s).spec x b args H fz slot f=match Nat.beq c' c with
     |true=>j b args H fz slot f
     |false=>E.spec x b args H fz slot f:=by
    intro b f
    simp only[Env.Wv,Env.XX,Nat.beq_refl,a]<;>grind
   split at t;rename_i d;rcases D R args H fz slot k kp r t with⟨v,l,m,A,u⟩|⟨p,l,m,A,u⟩
   exact .inl ⟨v,l,m,fun b f n=>by simp only[AIT,a,d];grind,fun b f=>by grind⟩;exact .inr ⟨p,l,m,fun b f n=>by simp only[AIT,a,d];grind,u⟩;rename_i d;split at t;rename_i z o;rcases h.2.2 x z o R args H fz slot k kp r t with⟨v,l,m,A,u⟩|⟨p,l,m,A,u⟩
   exact .inl ⟨v,l,m,fun b f n=>by simp only[AIT,a,d,o];grind,fun b f=>by grind⟩;exact .inr ⟨p,l,m,fun b f n=>by simp only[AIT,a,d,o];grind,u⟩;grind;grind
end
end
end Go.Pev
end
section
namespace Go.Pev
open Go.RowKit
noncomputable section
def m0:List Oper->Option (FuncId×List Operand×Tmp)
 |[o0,o1]=>match o0.op,o0.dst,o0.guard with
  |.makeFunc (.func g) first cs,some t,none=>match o1.op,o1.dst,o1.guard with
   |.defer c,none,none=>match c.callee with
    |.value (.tmp t')=>match Nat.beq t' t&&(c.args.isEmpty&&first.isEmpty)with
     |true=>some (g,cs.toList,t)
     |false=>none
    |_=>none
   |_,_,_=>none
  |_,_,_=>none
 |_=>none
def isRec(o:Oper):Bool:=match o.op,o.guard with
 |.call { callee:=.builtin .recover,args,.. },none=>args.isEmpty
 |_,_=>false
def T9[Lk](P:Program)(E:Env)(h:Hints)(R:Type)(fnC:Func)(rv:AV)(caps:List AV)(H:List Ob)(fz:List Bool)(k:St->Option R):Option R:=
 match fnC.body with
 |some (.seq (.region _ ops false) rest)=>match ops.toList with
  |[]=>none
  | o :: os => match isRec o && (Nat.beq (loops rest) 0 && (fnC.results.toList.isEmpty && (Nat.ble caps.length fnC.ntmps && !(fnC.name == "runtime.NumGoroutine")))) with
   |false=>none
   |true=>GD P E R (o::os) os H.length ((({ tmps:=.of caps fnC.ntmps,heap:=H,frz:=fz }:St).pad (C6 (o::os))).put o.dst rv) fun st=>Bl P E h R rest 0 st fun e st=>match e with
    |.normal=>k st
    |.ret=>k st
    |_=>none
 |_=>none
def L4[Lk](P:Program)(E:Env)(h:Hints)(R:Type):Nat->Code->St->(Exit->St->Option R)->(List Oper->Code->St->Option R)->Option R
 |0,.seq (.region _ ops false) b,st,_,kd=>kd ops.toList b st
 |m+1,.seq a b,st,ke,kd=>match Nat.beq (loops a) 0 with
  |true=>Bl P E h R a 0 st fun e st=>match e with
   |.normal=>L4 P E h R m b st ke kd
   |e=>ke e st
  |false=>none
 |_,_,_,_,_=>none
def c7(H:List Ob):AV->Bool
 |.ptr i 0=>GH H i
 |_=>false
def ABm(np:Nat):AV->Bool
 |.ptr i 0=>decide (i<np)
 |_=>false
def tV:Nat->Code->Code
 |0,.seq _ b=>b
 |m+1,.seq _ b=>tV m b
 |_,c=>c
def AVG(t:Tmp):Operand->Bool
 |.tmp t' => !(Nat.beq t' t)
 |_=>true
def Nc[Lk](P:Program)(E:Env)(fn:Func)(m:Nat)(j outs:A1)(rs:List RS)(n o k:Hints)(d:A1)(l:Nat)(x:Be (leaves j)):Option (Be (leaves outs)):=
 match fn.body with
 |none=>none
 |some c=>L4 P E n _ m c (encode fn.ntmps j x)
  (fun e st=>match e with
   |.ret=>finish 0 P fn outs rs st
   |_=>none)
  fun ops b st=>match m0 ops with
   |none=>none
   |some (g,cs,t)=>match P.funcs[g]? with
    |none=>none
    |some i=>match decode 0 fn.ntmps (st.put (some t) (.clo g (cs.map (BZ st.tmps)))) d with
     |none=>none
     |some v=>match(Nat.blt t fn.ntmps&&cs.all (AVG t))&&(cs.map (BZ (encode fn.ntmps d v).tmps)).all fun a=>ABm l a&&c7 (encode fn.ntmps d v).heap a with
      |false=>none
      |true=>Bl P E o _ b 0 (encode fn.ntmps d v) fun e f=>match(cs.map (BZ (encode fn.ntmps d v).tmps)).all (c7 f.heap)with
       |false=>none
       |true=>match e with
        |.normal=>T9 P E k _ i (.ifc none) (cs.map (BZ (encode fn.ntmps d v).tmps)) f.heap f.frz fun h=>finish 0 P fn outs rs { tmps:=f.tmps,heap:=h.heap,frz:=h.frz }
        |.ret=>T9 P E k _ i (.ifc none) (cs.map (BZ (encode fn.ntmps d v).tmps)) f.heap f.frz fun h=>finish 0 P fn outs rs { tmps:=f.tmps,heap:=h.heap,frz:=h.frz }
        |.panic q=>match APG (.panic q)with
         |some p=>T9 P E k _ i (.ifc (some p)) (cs.map (BZ (encode fn.ntmps d v).tmps)) f.heap f.frz fun h=>finish 0 P fn outs rs { tmps:=f.tmps,heap:=h.heap,frz:=h.frz }
         |none=>none
        |_=>none
end
section
variable {P:Program} {E:Env} {h:Hints}
theorem xM{R:Type}{r:R}(L:∀ g,BW P g (E.spec g)){ops:Array Oper}{Q:Exit->Act->List Frame->World->Prop}{cs:List Frame}{k:St->Option R}:∀ (b pre:List Oper) (slot:Nat) (st:St) (w:World) (F:Nat->Prop) (m:Mp) (a:Act),ops.toList=pre++b ->
  GD P E R ops.toList b slot st k=some r->SI w F m st a->(∀ d w',ASi r k w F m st.heap st.frz d w'->Q .normal d cs w')->wpOpsS P ops Q (List.range' pre.length b.length) a cs w:=by
 intro b;induction b with
  |nil=>intro pre slot st w F m a _ h t s;exact s a w ⟨st,F,m,h,t,Ext.refl ..⟩
  |cons o b H=>
   intro pre slot st w F m a p h t s;simp only[GD]at h;have q:ops[pre.length]? = some o:=by rw[<- AW4,p];simp
   have c:ops.toList=(pre++[o])++b:=by grind
   have I:(pre++[o]).length=pre.length+1:=by simp
   rw[AWD,AXp];simp only[wpOpsS,q];obtain⟨st',f,y,z,M⟩:=Qt t h;rcases M with⟨A,N⟩|⟨A,O⟩
   rw[AWB A];obtain⟨v,e,S,_,T⟩:=E5 L o.op R _ _ _ _ _ _ _ N;have i:o.wp P a w (fun d w'=>wpOpsS P ops Q (List.range' (pre.length+1) b.length) d cs w') (fun e d w'=>Q e d cs w'):=by
    refine T w F m a o _ _ rfl rfl f.heap (fun x=>FM f.tmps x) fun u w' U V J W => ?_;have j:=(f.go J).put W o.dst;have:=H (pre++[o]) _ _ w' U V (a.put o.dst u) c S j fun d l ⟨n,B,C,D,G,X⟩=>s d l ⟨n,B,C,D,G,by
     have K:=J.1;rw[y,z]at K;refine K.trans ?_;have:((st'.app e).put o.dst v).heap=DB e st.heap/\((st'.app e).put o.dst v).frz=FN e st.frz:=by cases o.dst<;>simp[St.put,St.app,y,z]
     grind⟩
    grind
   unfold Oper.wp at i;generalize (execOp a.eval o).run P w=res at i |-;split;simp[Oper.upon]at i;omega;rw[AV9 (by simp[A])];have j:SI w F m (st'.put o.dst CK) (a.put o.dst undef):=f.put Rk o.dst;have:=H (pre++[o]) _ _ w F m (a.put o.dst undef) c O j fun d l ⟨n,B,C,D,G,X⟩=>s d l ⟨n,B,C,D,G,by
    have:(st'.put o.dst CK).heap=st.heap/\(st'.put o.dst CK).frz=st.frz:=by cases o.dst<;>simp[St.put,y,z]
    grind⟩
   grind
theorem Il.ext{w:World}{F:Nat->Prop}{m:Mp}{H:List Ob}{fz:List Bool}{w':World}{a:Nat->Prop}{b:Mp}{H':List Ob}{fz':List Bool}(x:Il H.length w F m H fz w' a b H' fz'):Ext w F m H fz w' a b H' fz':=
 ⟨x.os,x.tape,x.output,x.size,x.keep,x.sub,x.bnd,x.own,fun i o c d=>x.comp i o (BU c) c d⟩
theorem Il.AVi{np:Nat}{w:World}{F:Nat->Prop}{m:Mp}{H:List Ob}{fz:List Bool}{w':World}{a:Nat->Prop}{b:Mp}{H':List Ob}{fz':List Bool}(x:Il np w F m H fz w' a b H' fz'):Il 0 w F m H fz w' a b H' fz':=
 ⟨x.os,x.tape,x.output,x.size,x.keep,x.sub,x.bnd,x.own,fun i o h=>absurd h (Nat.not_lt_zero _)⟩
theorem AFF(U:∀ g,BW P g (E.spec g))(hL:Eu E)(hP:Gg P E){R:Type}{r:R}{g:FuncId}{b:Func}{I:AV}{d:List AV}{H:List Ob}{fz:List Bool}{k:St->Option R}(hf:P.funcs[g]? = some b)(y:T9 P E h R b I d H fz k=some r):
  ∃ a,k a=some r/\H_ P g/\∀ (w:World) (F:Nat->Prop) (m:Mp) (c:List Value) (u:FrameMode),HI w F m H fz->BF w F m H d c->((u = .returning/\I = .ifc none)\/∃ p,u = .panicking [Cu p]/\I = .ifc (some p)) ->
   CallsD P g c.toArray u w fun q f w'=>(∃ v,q = .returned v)/\settle f = .returning/\∃ j l,BS w F m H fz w' j l a.heap a.frz:=by
 unfold T9 at y;split at y;rename_i id ops i hb;split at y;cases y;rename_i o os s;split at y;cases y;rename_i hc;simp only[AV5]at hc;obtain⟨K,z,hres,L,hnm⟩:=hc;have z:=AWi z;have L:=AWl L;obtain⟨M,h1,h2⟩:=Z5 U _ _ _ _ y;obtain⟨e,a,g1,_,g3⟩:=DM U hL hP (np:=M.heap.length) i 0 (Ms i 0 z) R _ _ r h1;have x:k a=some r/\(e = .normal\/e = .ret):=by grind
 refine⟨a,x.1,Cb hf (by grind) (by grind),fun w F m c u hi hr hu => ?_⟩;have N:=Ba hr;have V:SI w F m { tmps:=.of d b.ntmps,heap:=H,frz:=fz } { tmps:=c.toArray++Array.replicate (b.ntmps-c.toArray.size) undef,defers:=[] }:=by refine⟨fun t => ?_,?_,hi,rfl⟩;have:=jy hr (b.ntmps-d.length) t;simp only[AXJ,N];exact this;simp[N,Tm.of];omega
 obtain⟨W,X⟩:=V.pad (C6 (o::os));refine callsD_of_wpS hf hb fun n cs O => ?_;refine wpS_seq (wpS_region ?_);have A:o.guard=none/\∃ args ts,o.op = .call { callee:=.builtin .recover,args:=args,argTypes:=ts }/\args.isEmpty=true:=by unfold isRec at K;grind
 obtain⟨hg,args,ts,A,Y⟩:=A;have B:ops.size=os.length+1:=by rw[<- AWP,s];rfl
 have h0:ops[0]? = some o:=by rw[<- AW4,s];rfl
 rw[B,AXu,AXp];simp only[wpOpsS,h0];rw[AWB (by simp[Region.wanted,hg])];have S:(execOp (Act.eval { tmps:=c.toArray++Array.replicate (b.ntmps-c.toArray.size) undef,defers:=[] }) o).run P w = .ok .recover w:=by
  have ha:args = #[]:=by grind
  subst ha;simp[execOp,A,resolve,invoke,builtin]
 rw[S];simp only
 have go:∀ (v:Value) (J:Frame) (f:FrameMode),Rep w F m ((St.pad { tmps:=.of d b.ntmps,heap:=H,frz:=fz } (C6 (o::os))).heap) I v->J = { n with mode:=f }->settle f = .returning ->
   wpOpsS P ops (Exit.thenS (i.wpS P (bodyPostS P b n cs fun q f w'=>(∃ v,q = .returned v)/\settle f = .returning/\∃ j l,BS w F m H fz w' j l a.heap a.frz)) (bodyPostS P b n cs fun q f w'=>(∃ v,q = .returned v)/\settle f = .returning/\∃ j l,BS w F m H fz w' j l a.heap a.frz))
    (List.range' 1 os.length) (Act.put { tmps:=c.toArray++Array.replicate (b.ntmps-c.toArray.size) undef,defers:=[] } o.dst v) (J::cs) w:=by
  intro v J f Z hc1 hst
  have hs3:=W.put Z o.dst
  have h3:GD P E St ops.toList os H.length ((St.pad { tmps:=.of d b.ntmps,heap:=H,frz:=fz } (C6 (o::os))).put o.dst I) some=some M:=by
   grind
  have:=xM (cs:=J::cs) U os [o] _ _ w F m _ (by grind) h3 hs3 (Q:=(Exit.thenS (i.wpS P (bodyPostS P b n cs fun q f w'=>(∃ v,q = .returned v)/\settle f = .returning/\∃ j l,BS w F m H fz w' j l a.heap a.frz)) (bodyPostS P b n cs fun q f w'=>(∃ v,q = .returned v)/\settle f = .returning/\∃ j l,BS w F m H fz w' j l a.heap a.frz))) fun a' w' hp => ?_
  ·omega
  ·obtain⟨st',j,l,e1,s1,x1⟩:=hp
   cases e1
   show i.wpS P _ a' (J::cs) w'
   refine wpS_of_wp (g3 w' j l a' _ s1 fun a2 T F2 m2 s2 x2 => ?_)
   have hx:Ext w F m H fz T F2 m2 a.heap a.frz:=by
    have hh:=FH (St.pad { tmps:=.of d b.ntmps,heap:=H,frz:=fz } (C6 (o::os))) o.dst I
    rw[hh.1,hh.2]at x1
    exact X.trans (x1.trans x2.ext)
   have C:b.results.toList=[]:=by grind
   obtain⟨us,r1,_⟩:=L3 (P:=P) s2 (fn:=b) (vs:=[]) (by rw[C];rfl)
   have D:a2.defers=[]/\∃ f,(J::cs:List Frame) = { n with mode:=f }::cs/\∃ v,(results b a2.tmps).run P T = .ok v T/\((∃ v',Ending.returned v = .returned v')/\settle f = .returning/\∃ j l,BS w F m H fz T j l a.heap a.frz):=
    ⟨s2.defers,f,by rw[hc1],_,r1,⟨_,rfl⟩,hst,F2,m2,hx,s2.heap⟩
   rcases x.2 with rfl|rfl<;>exact D
 rcases hu with⟨rfl,rfl⟩|⟨p,rfl,rfl⟩
 have G:recoverD (n::cs)=none:=by simp[recoverD,O]
 rw[G];simp only;exact go .nilIface n .returning (by unfold Rep;rfl) (by cases n;grind) rfl;have G:recoverD (n::cs)=some (Kd (some p),{ n with mode:=.panicking [{ v:=Kd (some p),recovered:=true }] }::cs):=by simp[recoverD,O,Cu]
 rw[G];simp only;exact go _ _ (.panicking [{ v:=Kd (some p),recovered:=true }]) (by unfold Rep;rfl) rfl rfl;grind
theorem AFD(L:∀ g,BW P g (E.spec g))(M:Eu E)(N:Gg P E){R:Type}{r:R}{v:Exit->St->Option R}{J:List Oper->Code->St->Option R}:∀ (m:Nat) (c:Code) (st:St),L4 P E h R m c st v J=some r ->
  (∃ e st',e≠.normal/\v e st'=some r/\AVg P 0 c st e st') \/
  (∃ id ops b st',J ops.toList b st'=some r/\tV m c=b/\∀ (w:World) (F:Nat->Prop) (m:Mp) (a:Act) (Q:Exit->Act->World->Prop),SI w F m st a ->
   (∀ i w' j k,SI w' j k st' i->Il 0 w F m st.heap st.frz w' j k st'.heap st'.frz->(Code.seq (.region id ops false) b).wp P Q i w')->c.wp P Q a w):=by
 intro m;induction m with
  |zero=>
   intro c st f;cases c with
    |seq a b=>cases a with
     |region id ops s=>cases s with
      |false=>
       simp only[L4]at f
       exact .inr ⟨id,ops,b,st,f,rfl,fun w F m a Q l n=>n a w F m l (Il.refl ..)⟩
      |true=>simp[L4]at f
     |_=>simp[L4]at f
    |_=>simp[L4]at f
  |succ m O=>
   intro c st f;cases c with
    |seq a b=>
     simp only[L4]at f;split at f;rename_i o;have o:=AWi o;obtain⟨e,p,S,_,x⟩:=DM L M N (np:=0) a 0 (Ms a 0 o) R _ _ r f;by_cases K:e = .normal;subst K;rcases O b p S with⟨T,q,y,z,U⟩|⟨id,ops,b',q,y,V,z⟩
     refine .inl ⟨T,q,y,z,fun w F m d Q l n=>wp_seq ?_⟩;refine x w F m d _ l fun i w' j k t u => ?_;exact U w' j k i Q t fun A B C D G H=>n A B C D G (u.trans H);refine .inr ⟨id,ops,b',q,y,V,fun w F m d Q l n=>wp_seq ?_⟩;refine x w F m d _ l fun i w' j k t u => ?_;exact z w' j k i Q t fun A B C D G H=>n A B C D G (u.trans H);have I:v e p=some r:=by grind
     refine .inl ⟨e,p,K,I,fun w F m d Q l n=>wp_seq ?_⟩;refine x w F m d _ l fun i w' j k t u => ?_;have:=n i w' j k t u;cases e<;>first|grind|exact this
     grind
    |_=>simp[L4]at f
variable {g0:FuncId} {fn:Func} {c:Code}
theorem mz{ops:List Oper}{g:FuncId}{cs:List Operand}{t:Tmp}(h:m0 ops=some (g,cs,t)):∃ a b,ops=[a,b]/\a.guard=none/\a.dst=some t/\(∃ d fst,a.op = .makeFunc (.func g) fst d/\fst.toList=[]/\d.toList=cs) /\
  b.guard=none/\b.dst=none/\∃ args e,b.op = .defer { callee:=.value (.tmp t),args:=args,argTypes:=e }/\args.toList=[]:=by
 unfold m0 at h;split at h;rename_i a b;split at h;rename_i j first i t' k l m
 split at h;rename_i cl n o p;split at h;rename_i q r;split at h;rename_i f;simp only[AV5]at f;simp only[AV3,AWI]at h;obtain⟨rfl,rfl,rfl⟩:=h;have:=AWi f.1;subst this;obtain⟨callee,args,e⟩:=cl;grind;grind;grind;grind;grind;grind
theorem xJ{np:Nat}{H:List Ob}{v:AV}(h:(ABm np v&&c7 H v)=true):∃ i cs,v = .ptr i 0/\i<np/\H[i]? = some (.box cs):=by rw[AV5]at h;obtain⟨a,b⟩:=h;unfold ABm at a;split at a;rename_i i;refine⟨i,?_⟩;simp only[AV4]at a;simp only[c7,GH]at b;grind;grind
theorem AId{np:Nat}{w w':World}{F g:Nat->Prop}{m j:Mp}{H H':List Ob}{fz fz':List Bool}(x:Il np w F m H fz w' g j H' fz'):∀ {vs:List AV} {us:List Value},(vs.all fun a=>ABm np a&&c7 H a)=true->vs.all (c7 H')=true->BF w F m H vs us->BF w' g j H' vs us:=by
 intro vs;induction vs with
  |nil=>intro us _ _ h;unfold BF at *;exact h
  |cons v vs o=>
   intro us b d h;simp only[List.all_cons]at b d;rw[AV5]at b d;unfold BF at h |-;obtain⟨u,e,rfl,k,p⟩:=h;refine⟨u,e,rfl,?_,o b.2 d.2 p⟩;obtain⟨i,cs,rfl,hi,l⟩:=xJ b.1;have n:=d.1;simp only[c7,GH]at n;split at n
   ·rename_i q f;unfold Rep HM at k |-;rw[l]at k;rw[f];rcases x.comp i _ hi l (by simp)with r|⟨_,o',r,s,t,_⟩
    all_goals grind
   grind
theorem rP(hE:∀ g,BW P g (E.spec g))(hL:Eu E)(hP:Gg P E)(hf:P.funcs[g0]? = some fn)(hb:fn.body=some c)(hc:H_ P g0)
  {m:Nat} {na:Nat} (hna:na<=fn.ntmps) {s outs:A1} {rs:List RS} {hA hB hC:Hints} {j:A1} {npB:Nat} {f:Be (leaves s)->Option (Be (leaves outs))} (hfun:∀ x,f x=Nc P E fn m s outs rs hA hB hC j npB x)
  (hl:∀ [DfI],Bx P npB hB (tV m c) 0):BW P g0 (Bb 0 na s outs rs f):=by
 intro R args H fz slot k r K;simp only[Bb]at K;split at K;cases K;rename_i x bs fr O;split at K;cases K;rename_i Q;simp only[AV5,AV4]at Q;obtain⟨⟨⟨l,hbl⟩,hal⟩,hri,hro⟩:=Q;split at K;cases K;rename_i y hy;generalize S:DT (Di outs) (bs.take 0) slot=ids at K;generalize hgv:given (bs.drop 0)=gv at K;obtain⟨e,h4,he1,he2,h5,hok,hnd,hfl⟩:=TL K;refine⟨_,e,h4,fun R' k' => ?_,hc,fun w F mm vals hi hr => ?_⟩;simp only[Bb,O,l,hbl,hal,hri,hro,hy,AWG,AXL,S,hgv];grind;rw[hfun x]at hy;unfold Nc at hy;rw[hb]at hy;simp only at hy;refine calls_of_wp_defers hf hb ?_;obtain⟨F2,m2,gA,invA,hsi⟩:=Q9 hi hr hal hna O
 have fin:∀ (w':World) (o:Nat->Prop) (q:Mp) (st':St) (tm:Array Value),SI w' o q st' { tmps:=tm,defers:=[] }->Il 0 w F2 m2 (encode fn.ntmps s x).heap (encode fn.ntmps s x).frz w' o q st'.heap st'.frz->finish 0 P fn outs rs st'=some y ->
   Leaves P fn tm (fun en w'=>∃ u,en = .returned u/\∃ o q,BS w F mm H fz w' o q (DB e H) (FN e fz)/\Rep w' o q (DB e H) (single (Ex rs (J0 ids (encode (cellsOf rs) outs y).tmps.list))) u) [] .returning w':=by
  intro w' o q st' tm hs x1 hfin
  obtain⟨vs,tm',bs',fr',hvs,htm,hd',hp⟩:=Wt hfin
  rw[AV5]at hp
  obtain⟨us,r1,r2⟩:=L3 hs hvs
  exact⟨_,r1,_,rfl,cz hi gA invA l hri hro S hgv he1 he2 hok hnd hfl hs.heap x1 r2 htm hd' hp.1⟩
 rcases AFD hE hL hP m c _ hy with⟨ex,st',M,hke,A⟩|⟨id,ops,b,st',i,hcb,A⟩
 have hex:ex = .ret/\finish 0 P fn outs rs st'=some y:=by grind
 obtain⟨rfl,hke⟩:=hex;refine A w F2 m2 _ _ hsi fun d w' o q T x1 => ?_;show Leaves P fn d.tmps _ d.defers .returning w';rw[show d.defers=[]from T.defers];exact fin w' o q st' d.tmps ⟨T.tmps,T.size,T.heap,rfl⟩ x1 hke;split at i;cases i;rename_i g cs t hdf;split at i;cases i;rename_i fnC hfC;split at i;cases i;rename_i v hv;split at i;cases i;rename_i B;rw[AV5,AV5]at B;obtain⟨⟨htn,hnt⟩,hcap⟩:=B;refine A w F2 m2 _ _ hsi fun d w' o q T x1 => ?_;obtain⟨o0,o1,C,hg0,hd0,⟨a,fst,hop0,hfst,hcs⟩,hg1,hd1,U,ts1,hop1,hargs1⟩:=mz hdf;have V:ops.size=2:=by rw[<- AWP,C];rfl
 have h0:ops[0]? = some o0:=by rw[<- AW4,C];rfl
 have h1:ops[1]? = some o1:=by rw[<- AW4,C];rfl
 have W:fst = #[]:=by grind
 have G:U = #[]:=by grind
 subst W;subst G;subst hcs;have X:(execOp d.eval o0).run P w' = .ok (.value (.func (.func g) #[] (a.map d.eval))) w':=by simp[execOp,hop0,Instr.makeFunc]
 have hcr:BF w' o q st'.heap (a.toList.map (BZ st'.tmps)) (a.map d.eval).toList:=dB (fun x=>FM T.tmps x) a;have hrc:Rep w' o q st'.heap (.clo g (a.toList.map (BZ st'.tmps))) (.func (.func g) #[] (a.map d.eval)):=by unfold Rep;grind
 have s2:=T.put hrc (some t);obtain⟨F3,m3,s3,x3⟩:=HE s2 hv;have hev:(d.put (some t) (.func (.func g) #[] (a.map d.eval))).eval (.tmp t) = .func (.func g) #[] (a.map d.eval):=by
  have h1:t<d.tmps.size:=by
   have h2:(st'.put (some t) (.clo g (a.toList.map (BZ st'.tmps)))).tmps.n=fn.ntmps:=by unfold decode at hv;grind
   rw[<- T.size];rw[show st'.tmps.n=fn.ntmps from h2];simp_all
  simp[Act.eval,Act.put,h1]
 have Y:(execOp (d.put (some t) (.func (.func g) #[] (a.map d.eval))).eval o1).run P w' = .ok (.defer { target:=.fn (.func g) (a.map d.eval),args:=#[] }) w':=by simp[execOp,hop1,resolve,hev,Deferred.ofValue]
 refine wp_seq (wp_region ?_);rw[V];refine Ll h0 hg0 (Cx X ?_);rw[hd0];refine Ll h1 hg1 ?_;unfold Oper.wp;rw[Y,Oper.upon_defer,hd1];have e0:(d.put (some t) (.func (.func g) #[] (a.map d.eval))).defers=[]:=s2.defers;have s3t:=s3.tmps;have s3s:=s3.size;have s3h:=s3.heap;letI D:DfI:=⟨[{ target:=.fn (.func g) (a.map d.eval),args:=#[] }]⟩
 have s4:@SI D w' F3 m3 (encode fn.ntmps j v) { (d.put (some t) (.func (.func g) #[] (a.map d.eval)))with defers:={ target:=.fn (.func g) (a.map d.eval),args:=#[] }::(d.put (some t) (.func (.func g) #[] (a.map d.eval))).defers }:=
  @SI.mk D _ _ _ _ _ s3t s3s s3h (by rw[e0];rfl)
 obtain⟨ex,N,g1,_,g3⟩:=DM hE hL hP b 0 (hcb▸hl) _ _ _ _ i;have Z:BF w' F3 m3 (encode fn.ntmps j v).heap (a.toList.map (BZ (encode fn.ntmps j v).tmps)) (a.map d.eval).toList:=by
  have h1:a.map d.eval=a.map (d.put (some t) (.func (.func g) #[] (a.map d.eval))).eval:=by
   apply Array.map_congr_left;intro z hz;rw[AWU]at hnt;have:=hnt z (by grind);cases z with
    |tmp t'=>
     have M:t≠t':=by rintro rfl;simp[AVG]at this
     simp[Act.eval,Act.put,Array.getElem?_setIfInBounds_ne M]
    |_=>rfl
  rw[h1];exact dB (fun x=>FM s3t x) a
 refine g3 w' F3 m3 _ _ s4 fun L w2 F4 m4 s5 x5 => ?_;split at g1;cases g1;rename_i hal2
 have closing:∀ (rv:AV) (u:FrameMode),u≠.run->((u = .returning/\rv = .ifc none)\/∃ p,u = .panicking [Cu p]/\rv = .ifc (some p)) ->
   T9 P E hC _ fnC rv (a.toList.map (BZ (encode fn.ntmps j v).tmps)) N.heap N.frz (fun I=>finish 0 P fn outs rs { tmps:=N.tmps,heap:=I.heap,frz:=I.frz })=some y ->
   Leaves P fn L.tmps (fun en w'=>∃ u,en = .returned u/\∃ o q,BS w F mm H fz w' o q (DB e H) (FN e fz)/\Rep w' o q (DB e H) (single (Ex rs (J0 ids (encode (cellsOf rs) outs y).tmps.list))) u) [{ target:=.fn (.func g) (a.map d.eval),args:=#[] }] u w2:=by
  intro rv u M hmode hclo
  obtain⟨I,k1,kc,k2⟩:=AFF hE hL hP hfC hclo
  refine leaves_cons (f:=g) (args:=a.map d.eval) M (by simp[invoke,kc _ w2]) ?_
  have J:=k2 w2 F4 m4 _ u s5.heap (AId x5 hcap hal2 Z) hmode
  rw[AX8]at J
  refine J.mono fun en u' w3 ⟨⟨v',hen⟩,hset,F5,m5,hgo⟩ => ?_
  subst hen
  show Leaves P fn L.tmps _ [] (settle u') w3
  rw[hset]
  refine fin w3 F5 m5 { tmps:=N.tmps,heap:=I.heap,frz:=I.frz } L.tmps (@SI.mk noDf _ _ _ _ _ (fun t=>hgo.1.rep s5.heap (s5.tmps t)) s5.size hgo.2 rfl) ?_ k1
  exact x1.trans (x3.trans (x5.AVi.trans (hgo.1.toN 0)))
 have hdf2:L.defers=[{ target:=.fn (.func g) (a.map d.eval),args:=#[] }]:=s5.defers;cases ex with
  |normal=>show Leaves P fn L.tmps _ L.defers .returning w2;grind
  |ret=>show Leaves P fn L.tmps _ L.defers .returning w2;grind
  |panic ch=>simp only at g1;split at g1;rename_i p hp;have:=ABI hp;simp only[Exit.panic.injEq]at this;subst this;show Leaves P fn L.tmps _ L.defers (.panicking [Cu p]) w2;grind;grind
  |_=>grind
end
theorem DF[DfI]{P:Program}{np:Nat}{h:Hints}:∀ (c:Code) (n:Nat),loops c=0->Bx P np h c n:=by
 intro c;induction c with
  |seq a b e f=>intro n d;simp only[loops]at d;exact⟨e n (by omega),f _ (by omega)⟩
  |cond c a b e f=>intro n d;simp only[loops]at d;exact⟨e n (by omega),f _ (by omega)⟩
  |block id c g=>intro n d;simp only[loops]at d;exact g n d
  |loop c g=>intro n d;simp only[loops]at d;omega
  |_=>intro n _;trivial
def Vx[DfI](P:Program)(np:Nat)(h:Hints):List (Nat×Code)->Prop
 |[]=>True
 |p::l=>Jy P np (.loop p.2) (h.loop p.1)/\Vx P np h l
theorem dR[DfI]{P:Program}{np:Nat}{h:Hints}:∀ {a b:List (Nat×Code)},Vx P np h (a++b)->Vx P np h a/\Vx P np h b:=by
 intro a;induction a with
  |nil=>exact fun h=>⟨trivial,h⟩
  |cons p a c=>intro b h;exact⟨⟨h.1,(c h.2).1⟩,(c h.2).2⟩
theorem oC[DfI]{P:Program}{np:Nat}{h:Hints}:∀ (c:Code) (n:Nat),Vx P np h (Cy c n)->Bx P np h c n:=by
 intro c;induction c with
  |seq a b d e=>intro n f;have:=dR f;exact⟨d n this.1,e _ this.2⟩
  |cond c a b d e=>intro n f;have:=dR f;exact⟨d n this.1,e _ this.2⟩
  |block id c g=>intro n f;exact g n f
  |loop c g=>intro n f;exact f.1
  |_=>intro n _;trivial
theorem XD[DfI]{P:Program}{np:Nat}{h:Hints}{c:Code}{n:Nat}{l:List (Nat×Code)}(e:Cy c n=l)(a:Vx P np h l):Bx P np h c n:=oC c n (by grind)
def Sr:List (Nat×List (List Nat))->Nat->List (List Nat)
 |[],_=>[]
 |(k,x)::l,n=>match Nat.beq k n with
  |true=>x
  |false=>Sr l n
end Go.Pev
end
section
namespace Go.Pev
open Go.RowKit
noncomputable section
noncomputable def OP(n:Nat):Spec:=fun R args _ _ _ k=>
 match args with
 |[.data (.slice e) xs]=>match decide (e.size=n)with
  |true=>k (.clip e xs) {}
  |false=>none
 |_=>none
structure jU(P:Program)(fn:Func)(T e:TypeId)(n:Nat):Prop where
 body:fn.body=some (.seq (.region 0 #[CS fn 0 0] false) (.seq (.region 1 #[CS fn 1 0,CS fn 1 1,CS fn 1 2,CS fn 1 3,CS fn 1 4,CS fn 1 5,CS fn 1 6] false) .ret))
 nt:fn.ntmps=9
 res:fn.results = #[.tmp 2]
 d:(CS fn 0 0).dst=some 2/\(CS fn 1 0).dst=some 3/\(CS fn 1 1).dst=some 4/\(CS fn 1 2).dst=some 5/\(CS fn 1 3).dst=some 6/\(CS fn 1 4).dst=some 7/\(CS fn 1 5).dst=some 8/\(CS fn 1 6).dst=some 2
 g:(CS fn 0 0).guard=none/\(CS fn 1 0).guard=none/\(CS fn 1 1).guard=none/\(CS fn 1 2).guard=none/\(CS fn 1 3).guard=none/\(CS fn 1 4).guard=none/\(CS fn 1 5).guard=none/\(CS fn 1 6).guard=none
 o00:(CS fn 0 0).op = .assign (.const (.slice none 0 0))
 o10:(CS fn 1 0).op = .move (.tmp 0)
 o11:(CS fn 1 1).op = .move (.tmp 0)
 o12:(CS fn 1 2).op = .call { callee:=.builtin .len,args:=#[.tmp 4],argTypes:=#[T] }
 o13:(CS fn 1 3).op = .move (.tmp 0)
 o14:(CS fn 1 4).op = .call { callee:=.builtin .len,args:=#[.tmp 6],argTypes:=#[T] }
 o15:(CS fn 1 5).op = .slice T (.tmp 3) none (some (.tmp 5)) (some (.tmp 7))
 o16:(CS fn 1 6).op = .assign (.tmp 8)
 sl:P.underlying T=some (.slice e)
 sz:CD P e=some n
section
variable {P:Program} {g:FuncId} {fn:Func} {T e:TypeId} {n:Nat}
theorem ASL (hs : jU P fn T e n) (hf : P.funcs[g]? = some fn) (hn : (fn.name == "runtime.NumGoroutine") = false) : BW P g (OP n) := by
 intro R args H fz slot k r hk;unfold OP at hk;split at hk;rename_i t xs;split at hk;rename_i hsz;refine⟨_,_,hk,fun R' k'=>by simp only[OP,hsz],Cb hf (by rw[hs.body];rfl) hn,fun w F m vals hi hr => ?_⟩;simp only[AV4]at hsz;obtain⟨i,hi0,hsz'⟩:=Bt hs.sz;unfold BF at hr;obtain⟨v,vs',rfl,hrv,hnil⟩:=hr;unfold BF at hnil;subst hnil;have hrv:Dat w F (.slice t) xs [v]:=hrv;obtain⟨a,cap,e1,e2,e3⟩:=hrv;simp only[AWc,AYO]at e1;subst e1;refine calls_of_wp hf hs.body ?_;obtain⟨d0,d1,d2,d3,d4,d5,d6,d7⟩:=hs.d;obtain⟨g0,g1,g2,g3,g4,g5,g6,g7⟩:=hs.g;have hres:∀ (tm:Array Value) (w0:World),(results fn tm).run P w0 = .ok (tm.getD 2 undef) w0:=fun tm w0=>by simp[results,hs.res]
 refine wp_seq (wp_region ?_);simp only[AXJ,AWD,AWK,AWX,AYL,AWh];refine C_ (by rfl) g0 (Cx (Hv hs.o00) ?_);refine wp_seq (wp_region ?_);simp only[AXJ,AWD,AWK,AWX,AYL,AWh,AWa];refine C_ (by rfl) g1 (Cx (LO hs.o10) ?_);refine C_ (by rfl) g2 (Cx (LO hs.o11) ?_);refine C_ (by rfl) g3 (Cx (u:=.int .i64 (List.length (α:=t.den) xs)) (w':=w) (by simp[execOp,hs.o12,resolve,invoke,builtin,Act.eval,Act.put,d0,d1,d2,hs.nt,CQ hs.sl]) ?_);refine C_ (by rfl) g4 (Cx (LO hs.o13) ?_);refine C_ (by rfl) g5 (Cx (u:=.int .i64 (List.length (α:=t.den) xs)) (w':=w) (by simp[execOp,hs.o14,resolve,invoke,builtin,Act.eval,Act.put,d0,d1,d2,d3,d4,hs.nt,CQ hs.sl]) ?_);have hrun:=NW (P:=P) (w:=w) (kh:=.i64) (km:=.i64) hs.sl hi0 a (List.length (α:=t.den) xs) cap (l:=0) (h:=(List.length (α:=t.den) xs:Int)) (.inl ⟨rfl,rfl⟩) (by omega) (by omega) (by omega);refine C_ (by rfl) g6 (Cx (u:=.slice a (List.length (α:=t.den) xs) (List.length (α:=t.den) xs)) (w':=w) (by simp[execOp,hs.o15,Act.eval,Act.put,d0,d1,d2,d3,d4,d5,hs.nt,hrun];intro _;cases a<;>rfl) ?_)
 refine C_ (by rfl) g7 (Cx (Hv hs.o16) ?_);refine wp_ret ?_;refine⟨by simp[Act.put,d0,d1,d2,d3,d4,d5,d6,d7],_,hres _ _,?_⟩;refine⟨_,rfl,F,m,BS.refl hi,?_⟩;have:Rep w F m H (.clip t xs) (.slice a (List.length (α:=t.den) xs) (List.length (α:=t.den) xs)):=by unfold Rep;exact⟨⟨a,_,rfl,AV8 _,e3⟩,a,rfl⟩
 show Rep _ _ _ H _ _;simpa [Act.put,Act.eval,d0,d1,d2,d3,d4,d5,d6,d7,hs.nt]using this;grind;grind
theorem OO(n:Nat):HP (OP n):=fun _ _ _ _ _ _ _ _ _=>rfl
end
abbrev Tab:=Nat->A1×BH
def FD[Lk](P:Program)(E:Env)(np e:Nat)(d:Tab):Code->Nat->Hints->Hints
 |.seq a b,n,h=>FD P E np e d a n (FD P E np e d b (n+loops a) h)
 |.cond _ a b,n,h=>FD P E np e d a n (FD P E np e d b (n+loops a) h)
 |.block _ c,n,h=>FD P E np e d c n h
 |.loop c,n,h=>{ fp:=h.fp,loop:=fun m=>match Nat.beq m n with
   |true=>ME np e (d n).1 (d n).2 (roundOf P E (FD P E np e d c (n+1) h) (n+1) np e c (d n).1 (d n).2)
   |false=>(FD P E np e d c (n+1) h).loop m }
 |_,_,h=>h
theorem bU(P:Program)(E:Env)(np j:Nat)(e:Tab):∀ (c:Code) (n:Nat) (h:Hints) (m:Nat),(m<n\/n+loops c<=m)->(FD P E np j e c n h).loop m=h.loop m:=by
 intro c;induction c with
  |seq a b f g=>intro n h m d;simp only[FD,loops]at *;grind
  |cond c a b f g=>intro n h m d;simp only[FD,loops]at *;grind
  |block id c i=>intro n h m d;exact i n h m d
  |loop c i=>
   intro n h m d;simp only[FD,loops]at *;have:Nat.beq m n=false:=by
    cases k:Nat.beq m n with
     |true=>have:=AWi k;omega
     |false=>rfl
   grind
  |_=>intro n h m d;rfl
theorem Pq{P:Program}{np:Nat}{h k:Hints}:∀ (c:Code) (n:Nat),(∀ m,n<=m->m<n+loops c->k.loop m=h.loop m)->Bx P np h c n->Bx P np k c n:=by
 intro c;induction c with
  |seq a b f g=>intro n d e;simp only[loops]at d;exact⟨f n (fun m i j=>d m i (by omega)) e.1,g _ (fun m i j=>d m (by omega) (by omega)) e.2⟩
  |cond c a b f g=>intro n d e;simp only[loops]at d;exact⟨f n (fun m i j=>d m i (by omega)) e.1,g _ (fun m i j=>d m (by omega) (by omega)) e.2⟩
  |block id c l=>intro n d e;exact l n d e
  |loop c l=>intro n d e;simp only[loops]at d;unfold Bx at *;grind
  |_=>intro n d e;trivial
theorem AG9{P:Program}{E:Env}(j:Bn P E){np g:Nat}{d:Tab}:∀ (c:Code) (n:Nat) (h:Hints),Bx P np (FD P E np g d c n h) c n:=by
 intro c;induction c with
  |seq a b e f=>intro n h;refine⟨e n _,?_⟩;refine Pq b _ (fun m k l => ?_) (f (n+loops a) h);simp only[FD];exact bU P E np g d a n _ m (by omega)
  |cond c a b e f=>intro n h;refine⟨e n _,?_⟩;refine Pq b _ (fun m k l => ?_) (f (n+loops a) h);simp only[FD];exact bU P E np g d a n _ m (by omega)
  |block id c i=>intro n h;exact i n h
  |loop c i=>intro n h;unfold Bx;simp only[FD];rw[show Nat.beq n n=true from Nat.beq_refl n];exact SK j (fun _=>rfl) (i (n+1) h)
  |_=>intro n h;trivial
structure Row where
 g:FuncId
 k:Nat:=0
 np:Nat:=0
 na:Nat:=0
 fl:Nat:=0
 clo:Option (Nat×FuncId):=none
 its:A1:=[]
 os:BH:=[]
 rs:List RS:=[]
 fp:List (Nat×List (List Nat)):=[]
 tab:List (Nat×A1×BH):=[]
def ANe{α:Type}(d:α):List (Nat×α)->Nat->α
 |[],_=>d
 |p::l,n=>match Nat.beq p.1 n with
  |true=>p.2
  |false=>ANe d l n
def Row.outs(r:Row):A1:=match r.os with
 |[]=>[]
 |o::_=>o.2
def Row.mark(r:Row)(i:Nat):Bool:=Nat.testBit r.fl i
def Row.hint[Lk](r:Row)(P:Program)(E:Env)(fn:Func):Hints:=
 FD P E r.np fn.ntmps (ANe ([],[]) r.tab) (CE fn) 0 { fp:=ANe [] r.fp }
def Row.loc(r:Row):Bool:=cT r.its&&(Nat.ble (Di r.outs) 4 && !r.mark 3)
def Row.G9(r:Row):Bool:=Wi r.its&&Nat.ble (Di r.outs) 4
def Row.call(r:Row)(f:Be (leaves r.its)->Option (Be (leaves r.outs))):Spec:=Bb r.np r.na r.its r.outs r.rs f
def Row.self[Lk](r:Row)(P:Program)(E:Env)(fn:Func):Be (leaves r.its)->Option (Be (leaves r.outs)):=
 D5 r.np P E (r.hint P E fn) fn r.its r.outs r.rs
def Row.put[Lk](r:Row)(E:Env)(s:Spec):Env:=
 match r.clo with
 |none=>E.ext r.g r.loc r.G9 (match r.mark 3 with
  |true=>Hk s
  |false=>s)
 |some (i,c)=>E.XX r.g i c (match r.mark 3 with
  |true=>Hk s
  |false=>s)
def Row.okF(r:Row)(fn:Func):Bool:=
 fn.body.isSome && (!(fn.name == "runtime.NumGoroutine") && (Nat.ble r.na fn.ntmps && (match r.k with
  |1=>Nat.beq (loops (CE fn)) 0
  |_=>true)&&(match r.clo with
  |none=>true
  |some _=>r.G9)))
theorem Row.ATY{P:Program}{E:Env}{r:Row}(e:Bn P E){f:Be (leaves r.its)->Option (Be (leaves r.outs))}(j:BW P r.g (r.call f))(k:(match r.clo with
  |none=>true
  |some _=>r.G9)=true):Bn P (r.put E (r.call f)):=by
 have a:r.G9=true->Ik (match r.mark 3 with
  |true=>Hk (r.call f)
  |false=>r.call f):=by
  intro h
  simp only[Row.G9,AV5]at h
  cases r.mark 3 with
  |true=>exact APY h.1 h.2
  |false=>exact Co h.1 h.2
 have b:BW P r.g (match r.mark 3 with
  |true=>Hk (r.call f)
  |false=>r.call f):=by
  cases r.mark 3 with
  |true=>exact pJ j
  |false=>exact j
 unfold Row.put;split;refine Env.CU e b (fun h => ?_) a;simp only[Row.loc,AV5]at h;have l:r.mark 3=false:=by grind
 rw[l];exact MB h.1 h.2.1;rename_i i c d;rw[d]at k;exact Env.Su e b (a k)
theorem Row.AEQ {P : Program} {E : Env} {r : Row} {fn : Func} (hE : Bn P E) (hf : P.funcs[r.g]? = some fn) (hb : fn.body.isSome = true) (hn : (fn.name == "runtime.NumGoroutine") = false) (ha : Nat.ble r.na fn.ntmps = true)
  {f:Be (leaves r.its)->Option (Be (leaves r.outs))} (he:∀ x,f x=r.self P E fn x):BW P r.g (r.call f):=
 I7 hE hf hb hn ha he (AG9 hE _ _ _)
end
end Go.Pev
end
