/- A part of the proofs of this seat: PevCall3 PevCall4 PevTop PevClone GWM1 GWM2 GWM3 GWM4 PevTake PevPanC PevDefer PevClip PevRaw PevRow GWP1 GWP2 GWP3 GWP4 GWP5 GWP6 GWP7 GWP8. -/
import Derived.Test.YtbnaceonlbiheaaGreatDoorPf6697c0a40
import Derived.Laws.Sem
import Derived.KernelRfl
import Derived.Lib.SliceRun
import Derived.Recover
import Derived.Test.YtbnaceonlbiheaaGreatDoorProg
set_option linter.unusedVariables false
set_option linter.unusedSimpArgs false
set_option linter.unusedSectionVars false
set_option maxRecDepth 100000
section
namespace Go.Pev
open Go.RowKit
noncomputable section
section
variable [DfI] {P:Program} {w:World} {F:Nat->Prop} {m:Mp} {st:St} {a:Act}
def eh(b:Array Value):ResultVar->Sem Value
 |.tmp t=>pure (b.getD t undef)
 |.cell x t=>do loadVar t (<- asAddr (b.getD x undef))
theorem kQ(e:SI w F m st a){g:ResultVar}{v:AV}(h:Pm P st g=some v):
  ∃ u,(eh a.tmps g).run P w = .ok u w/\Rep w F m st.heap v u:=by
 cases g with
  |tmp t=>simp only[Pm,ARi]at h;subst h;exact⟨_,rfl,e.tmps t⟩
  |cell x T=>
   simp only[Pm]at h;split at h;rename_i id off n ag o p q;split at h;rename_i cs k;have d:=e.tmps x;have r:st.tmps.f x = .ptr id off:=o;rw[r]at d;unfold Rep Ge at d;rw[k]at d;obtain⟨b,c,s,y⟩:=d;obtain⟨b',c',vs,E,l,z,A,B⟩:=e.heap.obj id _ k;rw[s]at l;cases l;obtain⟨u,C,D⟩:=Dd (P:=P) p q h (FO A off) (ad:=⟨b,off,none⟩) (fun u i=>B u (ATK i)) (fun j u i=>by rw[List.getElem?_drop]at i;rw[Cx];simp only[World.cell?,z];grind)
   refine⟨u,?_,D⟩;simp[eh,y,asAddr,C];grind;grind
theorem eg(d:SI w F m st a):∀ {b:List ResultVar} {vs:List AV},D8 P st b=some vs ->
  ∃ us,(b.mapM (eh a.tmps)).run P w = .ok us w/\BA w F m st.heap vs us:=by
 intro b;induction b with
  |nil=>intro vs h;simp only[D8,ARi]at h;subst h;exact⟨[],by simp,Kf⟩
  |cons i b e=>intro vs h;simp only[D8]at h;split at h;cases h;rename_i v f;split at h;cases h;rename_i g c;simp only[ARi]at h;subst h;obtain⟨u,j,k⟩:=kQ d f;obtain⟨us,l,n⟩:=e c;refine⟨u::us,?_,by unfold BA;grind⟩;simp_all
def fY(us:List Value):Value:=if h:us.toArray.size=1 then us.toArray[0]else .tuple us.toArray
theorem K0(b:SI w F m st a){fn:Func}{vs:List AV}(h:D8 P st fn.results.toList=some vs):
  ∃ us,(results fn a.tmps).run P w = .ok (fY us) w/\BA w F m st.heap vs us:=by
 obtain⟨us,c,d⟩:=eg b h;refine⟨us,?_,d⟩
 have e:results fn a.tmps=(do
   let vs <- fn.results.mapM (eh a.tmps)
   pure (if h:vs.size=1 then vs[0]else .tuple vs)):=by
  unfold results
  congr 2
 rw[e,ATx];simp only[Sem.run_bind,map_eq_pure_bind];rw[c];rfl
theorem bV{H:List Ob}{vs:List AV}{us:List Value}(h:BA w F m H vs us):Rep w F m H (single vs) (fY us):=by
 have b:=BY h;unfold fY;match vs,us,b with
 |[],[],_=>
  simp only[single]
  unfold Rep
  simp_all
 |[v],[u],_=>
  simp only[single]
  unfold BA at h
  grind
 |v::v'::vs,u::u'::us,_=>
  simp only[single]
  unfold Rep
  simp_all
def JZ:List RS->List Value->List Value
 |.one::r,u::us=>u::JZ r us
 |.agg _::r,u::us=>u.cells.toList++JZ r us
 |_,_=>[]
theorem qf{H:List Ob}:∀ {rs:List RS} {vs:List AV} {us:List Value} {z:List AV},Ff rs vs=some z->BA w F m H vs us ->
  BA w F m H z (JZ rs us)/\(JZ rs us).length=cellsOf rs/\∀ (i:World) (j:Nat->Prop) (k:Mp) (o:List Ob) (g:List AV),BA i j k o g (JZ rs us)->BA i j k o (Eb rs g) us:=by
 intro rs;induction rs with
  |nil=>
   intro vs us z h c;cases vs with
    |nil=>simp only[Ff,ARi]at h;subst h;unfold BA at c;subst c;exact⟨Kf,rfl,fun _ _ _ _ _ _=>Kf⟩
    |cons v vs=>simp[Ff]at h
  |cons r rs E=>
   intro vs us z h c;cases vs with
    |nil=>cases r<;>simp[Ff]at h
    |cons v vs=>
     unfold BA at c;obtain⟨u,A,rfl,f,c⟩:=c;cases r with
      |one=>
       simp only[Ff]at h;split at h;rename_i l B;simp only[ARi]at h;subst h;obtain⟨G,C,I⟩:=E B c;refine⟨by simp only[JZ];unfold BA;grind,by simp[JZ,cellsOf,RS.cells,C];omega,fun i j k o g b => ?_⟩;simp only[JZ]at b;cases g with
        |nil=>unfold BA at b;cases b
        |cons x g=>unfold BA at b;obtain⟨y,ys,e,M,N⟩:=b;cases e;simp only[Eb,AT0,ATF];unfold BA;grind
       grind
      |agg n=>
       simp only[Ff]at h;split at h;rename_i cs p q;split at h;rename_i K;simp only[ARm]at K;split at h;rename_i l B;simp only[ARi]at h;subst h;obtain⟨G,C,I⟩:=E B c;have J:=cells?_ok q f;have O:=cells?_one q f;have D:=BY J;have Q:u = .agg u.cells:=by
        cases v<;>simp only[N6]at p<;>try grind
        rename_i t d;unfold Rep CX at f;rw[ARt p]at f;obtain⟨x,rfl,_⟩:=f;rfl;unfold Rep at f;obtain⟨x,rfl,_⟩:=f;rfl
       refine⟨by simp only[JZ];exact HC J G,by simp[JZ,cellsOf,RS.cells,C]at D |-;omega,fun i j k o g b => ?_⟩;simp only[JZ]at b;have L:=Na b n;have hd:=FO b n;have s:u.cells.toList.length=n:=by omega
       rw[List.take_left' s]at L;rw[List.drop_left' s]at hd;simp only[Eb];unfold BA;refine⟨u,A,rfl,?_,I i j k o _ hd⟩;unfold Rep;grind;grind;grind;grind
end
theorem CW {P : Program} {g : FuncId} {fn : Func} (hf : P.funcs[g]? = some fn) (hb : fn.body.isSome = true) (hn : (fn.name == "runtime.NumGoroutine") = false) : HH P g := by
 intro args w;obtain⟨c,hc⟩:=ASd.1 hb;have hn' : ¬ fn.name = "runtime.NumGoroutine" := by grind
 simp[callFunc,hf,hn',hc]
theorem LZ{P:Program}{np:Nat}{h:Hints}:∀ (c:Code) (n:Nat),loops c=0->Bu P np h c n:=by
 intro c;induction c with
  |seq a b e f=>intro n d;simp only[loops]at d;exact⟨e n (by omega),f _ (by omega)⟩
  |cond c a b e f=>intro n d;simp only[loops]at d;exact⟨e n (by omega),f _ (by omega)⟩
  |block id c g=>intro n d;simp only[loops]at d;exact g n d
  |scope c g=>intro n d;simp only[loops]at d;exact g n d
  |loop c g=>intro n d;simp only[loops]at d;omega
  |_=>intro n _;trivial
section
variable {P:Program} {E:Env} {h:Hints} {g:FuncId} {fn:Func} {c:Code}
theorem dq{w:World}{F:Nat->Prop}{m:Mp}{H:List Ob}{args:List AV}{a:List Value}(d:BA w F m H args a)(n:Nat)(t:Nat):
  Rep w F m H (args.getD t .Cv) ((a.toArray++Array.replicate n undef).getD t undef):=by
 have j:=BY d;have e:(a.toArray++Array.replicate n undef).getD t undef=(a++List.replicate n undef).getD t undef:=by rw[ASA,ARn,<- ASa];simp
 rw[e,ARn,ARn];rcases ATc t args.length with b|b;rw[ATH (by omega)];obtain⟨v,k,f⟩:=DD d (i:=t) (c:=args[t]) (ARs b);grind;rw[ATp b];exact(by unfold Rep;trivial:Rep w F m H .Cv _)
theorem mD(I:∀ g,BQ P g (E.spec g))(J:EX E)(K:Fu P E)(q:P.funcs[g]? = some fn)(s:fn.body=some c)(L:HH P g)(M:loops c=0):
  BQ P g (CE P E h fn):=by
 intro R args H fz slot k r p;simp only[CE,s]at p;split at p;cases p;rename_i f;simp only[ARm]at f;obtain⟨e,st',V,W,N⟩:=C' I J K (np:=H.length) c 0 (LZ c 0 M) R _ _ r p;have x:∃ vs,D8 P st' fn.results.toList=some vs/\k (single vs) { heap:=some (st'.heap,st'.frz) }=some r/\(e = .normal\/e = .ret):=by grind
 obtain⟨vs,y,O,Q⟩:=x;refine⟨_,_,O,fun X Y => ?_,L,fun w F m b hi C => ?_⟩;simp only[CE,s,f,ARx];grind;have j:=BY C;refine calls_of_wp q s ?_;have z:SI w F m { tmps:=.of args fn.ntmps,heap:=H,frz:=fz } { tmps:=b.toArray++Array.replicate (fn.ntmps-b.toArray.size) undef,defers:=[] }:=by refine⟨fun t => ?_,?_,hi,rfl⟩;have:=dq C (fn.ntmps-args.length) t;simp only[ASl,j];exact this;simp[j,Tm.of];omega
 refine N w F m _ _ z fun D w' l n A a => ?_;obtain⟨us,S,T⟩:=K0 A y;have B:BO w F m H fz w' l n st'.heap st'.frz:=⟨⟨a.os,a.tape,a.output,a.size,a.keep,a.sub,a.bnd,a.own,fun i o G q=>a.comp i o (BS G) G q⟩,A.heap⟩
 have d:D.defers=[]/\∃ v,(results fn D.tmps).run P w' = .ok v w'/\(fun(U:Ending) (w':World)=>∃ u,U = .returned u/\∃ l n,BO w F m H fz w' l n (Cp { heap:=some (st'.heap,st'.frz) } H) (Eo { heap:=some (st'.heap,st'.frz) } fz)/\Rep w' l n (Cp { heap:=some (st'.heap,st'.frz) } H) (single vs) u) (.returned v) w':=
  ⟨A.defers,_,S,_,rfl,l,n,B,bV T⟩
 rcases Q with rfl|rfl<;>exact d
theorem dC{w:World}{F:Nat->Prop}{m:Mp}{H:List Ob}{fz:List Bool}{i:List Bnd}{s:Mp}{E:St}{val:Nat->Value}(h:Inv w F m H fz i s E val){j:Nat}{o:Ob}(l:E.heap[j]? = some o):alive o:=by
 have f:=BS l;rw[h.lenH]at f;have u:i[j]? = some i[j]:=ARs f;have a:=h.ob j _ u;cases p:i[j]with
  |none=>rw[p]at a;simp only[B8]at a;obtain⟨_,⟨T,e,q,_⟩|⟨T,e,q⟩⟩:=a<;>(rw[l]at q;cases q;trivial)
  |whole id=>rw[p]at a;simp only[B8]at a;rcases a.2 with⟨T,t,xs,_,d,_⟩|⟨k,v,y,_,d⟩|⟨cs,x,b,c,vs,T,_,d,_⟩|⟨_,_,_,_,_,d,_⟩|⟨_,_,_,_,_,_,d,_⟩<;>(rw[l]at d;cases d;trivial)
  |cut id=>rw[p]at a;simp only[B8]at a;obtain⟨T,t,xs,n,_,_,r,_⟩:=a;rw[l]at r;cases r;trivial
theorem FF{st:St}(h:st.heap.all B_=true)(v:AV)(l:Loc):(place st v l).heap.all B_=true:=by
 cases l with
  |cell j c=>simp only[place];split;rw[AR1]at h |-;intro o a;rcases ATw a with b|rfl;grind;rfl;omega
  |_=>exact h
theorem KE{st:St}(h:st.heap.all B_=true){o:Ob}(a:B_ o=true):(EW st o).heap.all B_=true:=by simp[EW,h,a]
theorem zy:∀ (a:A1) (d:BV (leaves a)) (st:St),GK a=true->st.heap.all B_=true->(enc a d st).heap.all B_=true:=by
 intro a;induction a with
  |nil=>intro d st _ h;exact h
  |cons p r f=>
   intro d st b h;obtain⟨l,c⟩:=p;cases c with
    |rows T e t=>simp[GK]at b
    |mrows j e t=>simp[GK]at b
    |aptr T e n=>exact f _ _ b (FF (KE h rfl) _ _)
    |own T e=>exact f _ _ b (FF (KE h rfl) _ _)
    |box n=>exact f _ _ b (FF (KE h rfl) _ _)
    |map k v=>exact f _ _ b (FF (KE h rfl) _ _)
    |prs T j=>exact f _ _ b (FF (KE h rfl) _ _)
    |_=>exact f _ _ b (FF h _ _)
theorem NM{a:A1}{d:BV (leaves a)}{n:Nat}(b:GK a=true){j:Nat}{o:Ob}(h:(encode n a d).heap[j]? = some o):B_ o=true:=
 AR1.1 (zy a d (blank n) b rfl) o (ARu h)
theorem ki{a:A1}{d:BV (leaves a)}{n:Nat}(e:GK a=true){fz:List Bool}{x:Ix}(h:owned (encode n a d).heap fz x):x = .o x.id:=by
 cases x with
  |o i=>rfl
  |r i k=>obtain⟨o,b,_⟩:=Dr h;exact absurd h (FG b (NM e b))
theorem TB{np:Nat}{outs:A1}{rs:List RS}{st:St}{y:BV (leaves outs)}(h:finish np P fn outs rs st=some y):
  ∃ vs a b d,D8 P st fn.results.toList=some vs/\Ff rs vs=some a/\dec (lk a) st.heap outs st.frz []=some (y,b,d)/\(pins np 0 b&&(st.heap.take np).all B_)=true:=by unfold finish at h;grind
theorem Q0{R:Type}{r:R}{l:List Nat}{m:List Bnd}{n:List Nat}{rs:List RS}{X:St}{ids:List Nat}{H:List Ob}{fz:List Bool}{k:AV->Eff->Option R}(d:I3 R l m n rs X ids H fz k=some r):
  ∃ e,k (single (Eb rs (I9 ids X.tmps.list))) e=some r/\e.heap=none/\e.objs=l.map (fun i=>(i,.dead))++ids.zip (X.heap.map (EA ids)) /\
   (∀ f (j:AV->Eff->Option f),I3 f l m n rs X ids H fz j=j (single (Eb rs (I9 ids X.tmps.list))) e) /\
   Fb H (BF e.frz fz) ids m=true/\Er ids=true /\
   ((e.frz=[]/\Ja X.tmps.list=true/\X.heap.all Mk=true)\/e.frz=n):=by unfold I3 at d;split at d;rename_i a;split at d;rename_i b;simp only[ARl]at b a;refine⟨_,d,rfl,rfl,fun f j=>by simp only[I3,a.1,a.2,b.1,b.2,ASJ],b.1,b.2,.inl ⟨rfl,a.1,a.2⟩⟩;grind;rename_i a;split at d;rename_i b;simp only[ARl]at b;refine⟨_,d,rfl,rfl,fun f j=>by simp only[I3,a,b.1,b.2,ASJ],b.1,b.2,.inr rfl⟩;grind
theorem O9{w:World}{F:Nat->Prop}{m:Mp}{H:List Ob}{fz:List Bool}{args:List AV}{a:List Value}{n:Nat}{b:A1}{x:BV (leaves b)}{k:List Bnd}{j:List Nat}(hi:HI w F m H fz)(o:BA w F m H args a)(q:args.length=n)(r:n<=fn.ntmps)(f:dec (lk args) H b fz []=some (x,k,j)):
  ∃ e i,BO w F m H fz w e m H (BF j fz)/\Inv w e m H (BF j fz) k i (encode fn.ntmps b x) (fun t=>(a.toArray++Array.replicate (fn.ntmps-a.toArray.size) undef).getD t undef) /\
   SI w e i (encode fn.ntmps b x) { tmps:=a.toArray++Array.replicate (fn.ntmps-a.toArray.size) undef,defers:=[] }:=by
 have s:=BY o
 obtain⟨e,i,p,d,_⟩:=uD (val:=fun t=>(a.toArray++Array.replicate (fn.ntmps-a.toArray.size) undef).getD t undef) b fz [] F (fun _=>none) (blank fn.ntmps) x k j hi
  (fun t v u=>by
   have:=dq o (fn.ntmps-a.toArray.size) t
   rw[ARn,show args[t]? = some v from u]at this
   grind) (Inv.blank fn.ntmps) f
 have l:SI w e i (encode fn.ntmps b x) { tmps:=a.toArray++Array.replicate (fn.ntmps-a.toArray.size) undef,defers:=[] }:=by refine⟨d.tmps,?_,d.hi p.2,rfl⟩;rw[Mo];grind
 exact⟨e,i,p,d,l⟩
theorem Y7{w:World}{F:Nat->Prop}{m:Mp}{H:List Ob}{fz:List Bool}{val:Nat->Value}{np n:Nat}{f outs:A1}{rs:List RS}{x:BV (leaves f)}{y:BV (leaves outs)}{p C:List Bnd}{Q S:List Nat}{F2:Nat->Prop}{U:Mp}{slot:Nat}{e:Eff}{ids gv:List Nat}
  (hi:HI w F m H fz) (gA:BO w F m H fz w F2 m H (BF Q fz)) (s:Inv w F2 m H (BF Q fz) p U (encode n f x) val)
  (r:p.all Bnd.vI=true) (M:GK f=true) (V:GK outs=true) (W:DE (DN outs) (p.take np) slot=ids) (hgv:given (p.drop np)=gv)
  (X:e.heap=none) (he2:e.objs=gv.map (fun i=>(i,.dead))++ids.zip ((encode (cellsOf rs) outs y).heap.map (EA ids))) (hok:Fb H (BF e.frz fz) ids (p.take np)=true) (hnd:Er ids=true)
  (hfl:(e.frz=[]/\Ja (encode (cellsOf rs) outs y).tmps.list=true/\(encode (cellsOf rs) outs y).heap.all Mk=true)\/e.frz=Q)
  {w':World} {N:Nat->Prop} {R:Mp} {st':St} (s1h:HI w' N R st'.heap st'.frz) (A:HT np w F2 U (encode n f x).heap (encode n f x).frz w' N R st'.heap st'.frz)
  {vs:List AV} {us:List Value} {tm:List AV} (r2:BA w' N R st'.heap vs us) (htm:Ff rs vs=some tm) (hd':dec (lk tm) st'.heap outs st'.frz []=some (y,C,S)) (hp:pins np 0 C=true) :
  ∃ N R,BO w F m H fz w' N R (Cp e H) (Eo e fz)/\Rep w' N R (Cp e H) (single (Eb rs (I9 ids (encode (cellsOf rs) outs y).tmps.list))) (fY us):=by
 obtain⟨q1,q2,q3⟩:=qf htm r2
 obtain⟨F3,Y,gC,d,_⟩:=uD (val:=fun t=>(JZ rs us).getD t undef) outs st'.frz [] N (fun _=>none) (blank (cellsOf rs)) y C S s1h
  (fun t v ht=>by
   obtain⟨u,hu,hru⟩:=DD q1 ht
   grind) (Inv.blank (cellsOf rs)) hd'
 have Z:∀ {j:Ix} {b c},owned (encode n f x).heap (encode n f x).frz j->U j=some (b,c)->∃ id:Nat,p[j.id]? = some (.whole id)/\owned H (BF Q fz) id/\m id=some (b,c):=by
  intro j b c B D;have G:=ki M B;obtain⟨y,id,k1,k2,k3,k4⟩:=s.src B D;rw[G]at k3 k4;rw[AR1]at r;have:=r y (ARu k1);cases y with
   |none=>simp[Bnd.id?]at k2
   |whole i=>simp only[Bnd.id?,ARi]at k2;subst k2;exact⟨_,k1,k3,k4⟩
   |cut i=>simp[Bnd.vI]at this
 have hinj:∀ (i j id:Nat),p[i]? = some (.whole id)->p[j]? = some (.whole id)->i=j:=fun i j id h1 h2=>s.inj i j _ _ id h1 h2 rfl rfl;have z:∀ (j id:Nat),p[j]? = some (.whole id)->U j=m id/\∃ o o0,H[id]? = some o/\alive o/\(encode n f x).heap[j]? = some o0/\sameShape o o0/\alive o0/\owned H (BF Q fz) id:=by
  intro j id G;have hA:=s.ob j _ G;simp only[B8]at hA;obtain⟨eA,hA⟩:=hA;refine⟨eA,?_⟩;rcases hA with⟨T,t,xs,q,l,a3⟩|⟨k,v,es,q,l⟩|⟨cs,cs',b,cc,vs,T,q,l,_⟩|⟨_,_,_,_,q,l,_⟩|⟨_,_,_,_,_,_,l,_⟩
  exact⟨_,_,q,trivial,l,⟨rfl,rfl⟩,trivial,X0 q trivial a3⟩;exact⟨_,_,q,trivial,l,trivial,trivial,by simp only[owned,Cd];grind⟩;rotate_left;exact⟨_,_,q,trivial,l,rfl,trivial,by simp only[owned,Cd];grind⟩;exact absurd (NM M l) (by simp[B_]);exact⟨_,_,q,trivial,l,trivial,trivial,by simp only[owned,Cd];grind⟩
 have J:∀ (j id:Nat),(p.take np)[j]? = some (.whole id)->∃ o K,H[id]? = some o/\alive o/\(encode (cellsOf rs) outs y).heap[j]? = some K/\sameShape o K/\Y j=m id:=by
  intro j id I;rw[ATg]at I;split at I;case isFalse=>cases I
  rename_i hjn;obtain⟨eA,o,o0,s1,s2,s3,s4,s5,s6⟩:=z j id I;have hC:=d.ob j _ (by have:=kj _ 0 C hp j hjn;rw[ASP]at this;exact this);simp only[B8]at hC;obtain⟨eC,hC⟩:=hC;have mid:=A.comp j o0 hjn s3 (oC s5).1;have fin:∃ o2 K,st'.heap[j]? = some o2/\alive o2/\(encode (cellsOf rs) outs y).heap[j]? = some K/\sameShape o2 K:=by
   rcases hC with⟨T,t,xs,q,l,a3⟩|⟨k,v,es,q,l⟩|⟨cs,cs',b,cc,vs,T,q,l,_⟩|⟨_,_,_,_,q,l,_⟩|⟨_,_,_,_,_,_,l,_⟩
   exact⟨_,_,q,trivial,l,⟨rfl,rfl⟩⟩;exact⟨_,_,q,trivial,l,trivial⟩;rotate_left;exact⟨_,_,q,trivial,l,rfl⟩;exact absurd (NM V l) (by simp[B_]);exact⟨_,_,q,trivial,l,trivial⟩
  obtain⟨o2,K,t1,t2,t3,t4⟩:=fin;rcases mid with md|⟨_,o2',md1,md2,md3,_⟩
  grind;rw[t1]at md1;cases md1;exact⟨o,K,s1,s2,t3,(s4.trans md2).trans t4,by grind⟩
 have L:=d.hi gC.2;have hblk:∀ j b cc:Nat,owned (encode (cellsOf rs) outs y).heap (encode (cellsOf rs) outs y).frz j->Y j=some (b,cc)->(∃ id c':Nat,(p.take np)[j]? = some (.whole id)/\m id=some (b,c'))\/(∃ k id c':Nat,np<=k/\p[k]? = some (.whole id)/\m id=some (b,c'))\/w.heap.size<=b:=by
  intro j b cc B D;obtain⟨_,i',k1,k2,k3,k4⟩:=d.src B D;rcases A.own i' b cc (K4 k3) k4 with⟨i,c0,l1,l2⟩|h;obtain⟨id,n1,n2,n3⟩:=Z l1 l2;have hio:=ki M l1;generalize i.id=i0 at n1 hio;subst hio;rcases ATc i0 np with hin|hin;left;have n1':(p.take np)[i0]? = some (.whole id):=by grind
  obtain⟨o,K,p1,p2,p3,p4,p5⟩:=J i0 id n1';have hoi:owned (encode (cellsOf rs) outs y).heap (encode (cellsOf rs) outs y).frz i0:=X0 p3 (dC d p3) (d.frz i0);by_cases hij:j=i0;grind;exact absurd rfl (L.sep j i0 b cc b c0 B hoi (ALr hij) D (by grind));grind;omega
 have O:∀ b,b<w.heap.size->(∀ (j id:Nat) (c:Nat),p[j]? = some (.whole id)->m id≠some (b,c))->w'.heap[b]? = w.heap[b]? := by intro b hb hn;refine A.keep b hb fun i cc B D => ?_;grind
 have hbnd:∀ b,F3 b->F2 b\/(∃ (j id c:Nat),p[j]? = some (.whole id)/\m id=some (b,c))\/w.heap.size<=b:=by
  have hx:∀ {i:Ix} {b cc:Nat},owned (encode n f x).heap (encode n f x).frz i->U i=some (b,cc)->∃ (j id c:Nat),p[j]? = some (.whole id)/\m id=some (b,c):=by grind
  intro b hb;rcases gC.1.bnd b hb with h|⟨i,cc,B,D⟩|h;·rcases A.bnd b h with h|⟨i,cc,B,D⟩|h;all_goals grind
  ·rcases A.own i b cc B D with⟨i',c0,B,D⟩|h;all_goals grind
  grind
 have hidl:ids.length=(encode (cellsOf rs) outs y).heap.length:=by rw[<- W,ABp];unfold encode;rw[AIT];simp[blank]
 obtain⟨FR,hFR,hRR⟩:∃ FR,((FR=F/\BF e.frz fz=fz/\(encode (cellsOf rs) outs y).heap.all Mk=true)\/(FR=F3/\BF e.frz fz=BF Q fz))/\BA w' FR Y (encode (cellsOf rs) outs y).heap (encode (cellsOf rs) outs y).tmps.list (JZ rs us):=by
  have hrt:BA w' F3 Y (encode (cellsOf rs) outs y).heap (encode (cellsOf rs) outs y).tmps.list (JZ rs us):=by refine Dy (by rw[Tm.AHD,Mo,q2]) fun i a u ha hu => ?_;have:=d.tmps i;rw[ARn,hu]at this;rw[Tm.AHE ha];exact this
  rcases hfl with⟨f1,f2,f3⟩|f1;exact⟨F,.inl ⟨rfl,by rw[f1];rfl,f3⟩,BA.flat _ f2 hrt⟩;grind
 obtain⟨hgo,hmv⟩:=ADI (ids:=ids) (np:=np) hi gA (fun j id G=>(z j id G).2.elim fun _ h=>h.elim fun _ h=>h.2.2.2.2.2) hinj J hblk A.os A.tape A.output A.size O (fun b h=>gC.1.sub b (A.sub b h)) hbnd L (fun j o G=>dC d G) (fun j o G=>NM V G) d.frz hidl hok hnd hFR;rw[hgv]at hgo hmv;have hH:Cp e H=Bi (ids.zip ((encode (cellsOf rs) outs y).heap.map (EA ids))) (Ds gv H):=by rw[Cf X,he2,So];rfl
 have hZ:Eo e fz=BF e.frz fz:=DJ X fz;refine⟨FR,mOf ids Y m,?_,?_⟩;grind;rw[hH];exact bV (q3 _ _ _ _ _ (BA.ren hmv _ hRR))
theorem AAt(hE:∀ g,BQ P g (E.spec g))(hL:EX E)(hP:Fu P E)(hf:P.funcs[g]? = some fn)(Y:fn.body=some c)(hc:HH P g)
  {np Z:Nat} (G:Z<=fn.ntmps) {n outs:A1} {rs:List RS} {f:BV (leaves n)->Option (BV (leaves outs))} (q:∀ x,f x=Da np P E h fn n outs rs x) (hl:Bu P np h c 0) :
  BQ P g (BU np Z n outs rs f):=by
 intro R args H fz slot k r d;simp only[BU]at d;split at d;cases d;rename_i x bs fr i;split at d;cases d;rename_i j;simp only[ARl,ARm]at j;obtain⟨⟨⟨a,I⟩,s⟩,t,z⟩:=j;split at d;cases d;rename_i y p;generalize l:DE (DN outs) (bs.take np) slot=ids at d;generalize A:given (bs.drop np)=gv at d;obtain⟨e,h4,J,K,h5,L,M,N⟩:=Q0 d;refine⟨_,e,h4,fun R' k' => ?_,hc,fun w F m vals hi hr => ?_⟩;simp only[BU,i,a,I,s,t,z,p,ARx,ASJ,l,A];grind;have hlv:=BY hr;rw[q x]at p;unfold Da at p;rw[Y]at p;simp only at p;obtain⟨ex,st',g1,_,g3⟩:=C' hE hL hP c 0 hl _ _ _ _ p;have b:finish np P fn outs rs st'=some y/\(ex = .normal\/ex = .ret):=by grind
 obtain⟨b,O⟩:=b;obtain⟨vs,tm,bs',fr',Q,S,T,D⟩:=TB b;rw[ARl]at D;replace D:=D.1;refine calls_of_wp hf Y ?_;obtain⟨F2,m2,gA,B,U⟩:=O9 hi hr s G i;refine g3 w F2 m2 _ _ U fun a' w' V W X x1 => ?_;obtain⟨us,r1,r2⟩:=K0 X Q;have C:=Y7 hi gA B a t z l A J K L M N X.heap x1 r2 S T D
 have o:a'.defers=[]/\∃ v,(results fn a'.tmps).run P w' = .ok v w'/\(fun(en:Ending) (w':World)=>∃ u,en = .returned u/\∃ V W,BO w F m H fz w' V W (Cp e H) (Eo e fz)/\Rep w' V W (Cp e H) (single (Eb rs (I9 ids (encode (cellsOf rs) outs y).tmps.list))) u) (.returned v) w':=
  ⟨X.defers,_,r1,_,rfl,C⟩
 rcases O with rfl|rfl<;>exact o
end
def JO:Code->Nat->Option Code
 |.seq a b,n=>match JO a n with
  |some c=>some c
  |none=>JO b (n-loops a)
 |.cond _ a b,n=>match JO a n with
  |some c=>some c
  |none=>JO b (n-loops a)
 |.block _ c,n=>JO c n
 |.scope c,n=>JO c n
 |.loop c,n=>match n with
  |0=>some c
  |n+1=>JO c n
 |_,_=>none
def Bz(f:Func):Code:=match f.body with
 |some c=>c
 |none=>.skip
def DF(f:Func)(n:Nat):Code:=(JO (Bz f) n).getD .skip
def CZ:Code->Nat->List (Nat×Code)
 |.seq a b,n=>CZ a n++CZ b (n+loops a)
 |.cond _ a b,n=>CZ a n++CZ b (n+loops a)
 |.block _ c,n=>CZ c n
 |.scope c,n=>CZ c n
 |.loop c,n=>[(n,c)]
 |_,_=>[]
def dR(P:Program)(np:Nat)(h:Hints):List (Nat×Code)->Prop
 |[]=>True
 |p::l=>I7 P np (.loop p.2) (h.loop p.1)/\dR P np h l
theorem dQ{P:Program}{np:Nat}{h:Hints}:∀ {a b:List (Nat×Code)},dR P np h (a++b)->dR P np h a/\dR P np h b:=by
 intro a;induction a with
  |nil=>exact fun h=>⟨trivial,h⟩
  |cons p a c=>intro b h;exact⟨⟨h.1,(c h.2).1⟩,(c h.2).2⟩
theorem oJ{P:Program}{np:Nat}{h:Hints}:∀ (c:Code) (n:Nat),dR P np h (CZ c n)->Bu P np h c n:=by
 intro c;induction c with
  |seq a b e f=>intro n d;have:=dQ d;exact⟨e n this.1,f _ this.2⟩
  |cond c a b e f=>intro n d;have:=dQ d;exact⟨e n this.1,f _ this.2⟩
  |block id c g=>intro n d;exact g n d
  |scope c g=>intro n d;exact g n d
  |loop c g=>intro n d;exact d.1
  |_=>intro n _;trivial
theorem Dz{P:Program}{np:Nat}{h:Hints}{c:Code}{n:Nat}{l:List (Nat×Code)}(e:CZ c n=l)(a:dR P np h l):Bu P np h c n:=oJ c n (by grind)
def BE(P:Program)(E:Env):Prop:=(∀ g,BQ P g (E.spec g))/\EX E/\Fu P E
def Env.none:Env:={ spec:=fun _ _ _ _ _ _ _=>Option.none,loc:=fun _=>false,FY:=fun _=>true }
theorem Env.ALt{P:Program}:BE P Env.none:=⟨fun g R args H fz slot k r h=>by simp[Env.none]at h,⟨fun g h=>by simp[Env.none]at h,fun g _ R args H H' fz fz' slot k S _ _ _=>rfl⟩,fun g s h=>by cases h⟩
def Env.ext(E:Env)(g:FuncId)(loc FY:Bool)(s:Spec):Env where
 spec x:=match Nat.beq x g with
  |true=>s
  |false=>E.spec x
 loc x:=match Nat.beq x g with
  |true=>loc
  |false=>E.loc x
 FY x:=match Nat.beq x g with
  |true=>FY
  |false=>E.FY x
 pan x:=match Nat.beq x g with
  |true=>.none
  |false=>E.pan x
theorem Env.CA{P:Program}{E:Env}{g:FuncId}{loc FY:Bool}{s:Spec}(h:BE P E)(e:BQ P g s)(f:loc=true->Gf s)(c:FY=true->Fv s):BE P (E.ext g loc FY s):=by
 refine⟨?_,⟨?_,?_⟩,fun x d a => ?_⟩;intro x;simp only[Env.ext];cases a:Nat.beq x g with
  |true=>simp_all
  |false=>exact h.1 x
 intro x a;simp only[Env.ext]at a |-;cases b:Nat.beq x g with
  |true=>grind
  |false=>rw[b]at a;exact h.2.1.1 x a
 intro x a;simp only[Env.ext]at a |-;cases b:Nat.beq x g with
  |true=>grind
  |false=>rw[b]at a;exact h.2.1.2 x a
 simp only[Env.ext]at a |-;cases b:Nat.beq x g with
  |true=>grind
  |false=>rw[b]at a;exact h.2.2 x d a
section
variable {P:Program} {E:Env} {h:Hints} {g:FuncId} {fn:Func}
theorem Fp(a:fn.body.isSome=true):fn.body=some (Bz fn):=by unfold Bz;grind
theorem Gc (hE : BE P E) (hf : P.funcs[g]? = some fn) (hb : fn.body.isSome = true) (hn : (fn.name == "runtime.NumGoroutine") = false)
  {np na:Nat} (hna:(Nat.ble na fn.ntmps)=true) {its outs:A1} {rs:List RS} {f:BV (leaves its)->Option (BV (leaves outs))} (hfun:∀ x,f x=Da np P E h fn its outs rs x) (hl:Bu P np h (Bz fn) 0) :
  BQ P g (BU np na its outs rs f):=
 AAt hE.1 hE.2.1 hE.2.2 hf (Fp hb) (CW hf hb hn) (ASI hna) hfun hl
theorem Bn (hE : BE P E) (hf : P.funcs[g]? = some fn) (hb : fn.body.isSome = true) (hn : (fn.name == "runtime.NumGoroutine") = false) (hl : loops (Bz fn) = 0) : BQ P g (CE P E h fn) :=
 mD hE.1 hE.2.1 hE.2.2 hf (Fp hb) (CW hf hb hn) hl
theorem P9{e:Hints}(d:BE P E){np f n:Nat}{a:Code}{b:A1}{os:BB}{stp:BV (leaves b)->Option (BV (leaves b)⊕ZH os)}
  (c:∀ v,stp v=roundOf P E e n np f a b os v) (i:Bu P np e a n):I7 P np (.loop a) (K9 np f b os stp):=ABQ d.1 d.2.1 d.2.2 c i
def TK:A1->Bool
 |[]=>true
 |(.tmp _,.dat _)::r=>TK r
 |_::_=>false
theorem ACj{H H':List Ob}{d:List AV}(j:∀ id∈Bt d,H[id]? = H'[id]?):∀ (b:A1) (fz fz':List Bool),TK b=true->dec (lk d) H b fz []=dec (lk d) H' b fz' []:=by
 intro b;induction b with
  |nil=>intro fz fz' _;rfl
  |cons p r k=>
   intro fz fz' hd;obtain⟨l,c⟩:=p;cases l<;>cases c<;>simp only[TK]at hd<;>try (cases hd;done)
   rename_i t ty;simp only[dec,look];cases f:lk d t with
    |none=>rfl
    |some v=>
     have e:∀ id∈BR v,H[id]? = H'[id]? := fun id i=>j id (by
      clear k hd j;unfold lk at f;induction d generalizing t with
       |nil=>grind
       |cons a d m=>
        cases t with
         |zero=>simp at f;subst f;simp[Bt,i]
         |succ t=>simp only[Bt,AR6];grind)
     simp only;rw[TO ty v e];grind
theorem ABn:∀ (n slot:Nat),DE n [] slot=List.range' slot n:=by
 intro n;induction n with
  |zero=>intro slot;rfl
  |succ n a=>intro slot;simp only[DE,ATD];rw[a]
theorem S_{H H':List Ob}{fz fz':List Bool}:∀ (ids:List Nat),(∀ i∈ids,Bb H fz i=Bb H' fz' i)->Fb H fz ids []=Fb H' fz' ids []:=by
 intro ids;induction ids with
  |nil=>intro _;rfl
  |cons a ids b=>intro h;simp only[Fb,List.tail_nil];grind
theorem uE{H:List Ob}{f:List AV}:∀ (a:A1) (fz:List Bool) (d:List Bnd) (x:BV (leaves a)) (b:List Bnd) (e:List Nat),TK a=true->dec (lk f) H a fz d=some (x,b,e)->b=d:=by
 intro a;induction a with
  |nil=>intro fz d x b e _ h;simp only[dec,ARi]at h;grind
  |cons p r i=>
   intro fz d x b e hd h;obtain⟨l,c⟩:=p;cases l<;>cases c<;>simp only[TK]at hd<;>try (cases hd;done)
   simp only[dec]at h;grind
theorem Hd{np l:Nat}{a outs:A1}{rs:List RS}{f:BV (leaves a)->Option (BV (leaves outs))}(hd:TK a=true)(m:Nat.ble (DN outs) 4=true):Gf (BU np l a outs rs f):=by
 intro R args H H' fz fz' slot k e;unfold BU;rw[ACj e.heap a fz fz' hd];split;rfl;rename_i x n j c;have d:=uE a fz' [] x n j hd c;subst d;split;rfl;split;rfl;rename_i y o;simp only[List.take_nil,List.drop_nil];have b:∀ (g:List Nat) (i:Nat),i∈DE (DN outs) [] slot->Bb H (BF g fz) i=Bb H' (BF g fz') i:=by intro g i hi;rw[ABn,List.mem_range'_1]at hi;have:=ASI m;exact Ef e hi.1 (by omega) g
 unfold I3;rw[show Fb H fz (DE (DN outs) [] slot) []=Fb H' fz' (DE (DN outs) [] slot) []from S_ _ (b []),S_ _ (b j)]
end
def gq{α:Type}(xs:List α):Option (List α):=match mz (A2 xs)with
 |true=>some xs
 |false=>none
def HR[Lk]{α:Type}(xs:List α):Option (List α):=Lk.f (gq xs)
theorem c7{α:Type}(xs:List α):HR xs=gq xs:=A0 _
noncomputable def Dj[Lk](e:TypeId)(t:Ty):Spec:=fun R args H fz slot k=>
 match args with
 |[x]=>match FP H (.slice t) x with
  |some (xs,_)=>match(HR xs:Option (List t.den))with
   |none=>none
   |some y=>(match Bb H fz slot with|true=>k (.own slot) { objs:=[(slot,.arr e t y)] }|false=>none)
  |none=>none
 |_=>none
def S4:Code->Nat->List Oper
 |.region id ops _,n=>if id=n then ops.toList else []
 |.seq a b,n=>S4 a n++S4 b n
 |.cond _ a b,n=>S4 a n++S4 b n
 |.block _ c,n=>S4 c n
 |.scope c,n=>S4 c n
 |.loop c,n=>S4 c n
 |_,_=>[]
def CR(fn:Func)(n i:Nat):Oper:=((S4 (Bz fn) n)[i]?).getD default
structure FA(P:Program)(fn:Func)(T e:TypeId)(t:Ty):Prop where
 body:fn.body=some (.seq (.region 0 #[CR fn 0 0] false) (.seq (.seq (.region 1 #[CR fn 1 0,CR fn 1 1] false) (.cond (.tmp 4) (.seq (.region 2 #[CR fn 2 0] false) .ret) .skip)) (.seq (.region 3 #[CR fn 3 0,CR fn 3 1,CR fn 3 2,CR fn 3 3] false) .ret)))
 nt:fn.ntmps=8
 res:fn.results = #[.tmp 2]
 d:(CR fn 0 0).dst=some 2/\(CR fn 1 0).dst=some 3/\(CR fn 1 1).dst=some 4/\(CR fn 2 0).dst=some 2/\(CR fn 3 0).dst=some 5/\(CR fn 3 1).dst=some 6/\(CR fn 3 2).dst=some 7/\(CR fn 3 3).dst=some 2
 g:(CR fn 0 0).guard=none/\(CR fn 1 0).guard=none/\(CR fn 1 1).guard=none/\(CR fn 2 0).guard=none/\(CR fn 3 0).guard=none/\(CR fn 3 1).guard=none/\(CR fn 3 2).guard=none/\(CR fn 3 3).guard=none
 o00:(CR fn 0 0).op = .assign (.const (.slice none 0 0))
 o10:(CR fn 1 0).op = .move (.tmp 0)
 o11:(CR fn 1 1).op = .binOp .eql T (.tmp 3) (.const (.slice none 0 0)) T
 o20:(CR fn 2 0).op = .assign (.const (.slice none 0 0))
 o30:(CR fn 3 0).op = .buildSlice T 0 #[]
 o31:(CR fn 3 1).op = .move (.tmp 0)
 o32:(CR fn 3 2).op = .call { callee:=.builtin .append,args:=#[.tmp 5,.tmp 6],argTypes:=#[T,T] }
 o33:(CR fn 3 3).op = .assign (.tmp 7)
 sl:sliceAt P T=some (e,t)
 z:(zeroAt P e).isSome=true
 by1:(P.info? e).map (fun i=>decide (i.bytes<=1024))=some true
section
variable {P:Program} {g:FuncId}
theorem Cz{ops:Array Oper}{Q:Exit->Act->World->Prop}{i:Nat}{b:List Nat}{a:Act}{w:World}{o:Oper}(c:ops[i]? = some o)(d:o.guard=none)(h:o.wp P a w (wpOps P ops Q b) Q):wpOps P ops Q (i::b) a w:=by simp only[wpOps,c];rw[ARt (by simp[Region.wanted,d])];grind
theorem Cm{o:Oper}{a:Act}{w w':World}{next:Act->World->Prop}{Q:Exit->Act->World->Prop}{u:Value}(h:(execOp a.eval o).run P w = .ok (.value u) w')(b:next (a.put o.dst u) w'):o.wp P a w next Q:=by unfold Oper.wp;rw[h];exact b
variable {fn:Func} {T e:TypeId} {t:Ty}
theorem KR{P:Program}{w:World}{ρ:Operand->Value}{o:Oper}{x:Operand}(h:o.op = .move x):(execOp ρ o).run P w = .ok (.value (ρ x)) w:=by simp[execOp,h]
theorem G7{P:Program}{w:World}{ρ:Operand->Value}{o:Oper}{x:Operand}(h:o.op = .assign x):(execOp ρ o).run P w = .ok (.value (ρ x)) w:=by simp[execOp,h]
theorem Ka (hs : FA P fn T e t) (hf : P.funcs[g]? = some fn) (hn : (fn.name == "runtime.NumGoroutine") = false) : BQ P g (Dj e t) := by
 intro R args H fz slot k r hk;unfold Dj at hk;split at hk;rename_i x;split at hk;rename_i xs fr hx;split at hk;cases hk;rename_i y hy;split at hk;rename_i hfree;refine⟨_,_,hk,fun R' k'=>by simp only[Dj,hx,hy,hfree],CW hf (by rw[hs.body];rfl) hn,fun w F m vals hi hr => ?_⟩;rw[c7]at hy;unfold gq at hy;split at hy;rename_i hfit;simp only[ARi]at hy;subst hy;have hr0:=hr;unfold BA at hr;obtain⟨v,vs',rfl,hrv,hnil⟩:=hr;unfold BA at hnil;subst hnil;obtain⟨hu,hty0,hpos⟩:=Ch hs.sl;obtain⟨zz,hzz⟩:=ASd.1 hs.z;obtain⟨t',cs'⟩:=zz;obtain⟨hty',hcs',i,z,hi0,hz0,hok,hsz,hza⟩:=CV hzz;subst hcs';have:t'=t:=by grind
 subst this;have hzs:z.cells.size=i.size:=by have hzd:=CN (w:=default) (F:=fun _=>False) t' _ hok;rw[hsz,<- ARz];exact Dat.length t' hzd
 have hby':i.bytes<=1024:=by simpa [hi0]using hs.by1
 obtain⟨A,c,rfl,q2,q3,news,q4,q5⟩:=EU hi hx hrv;have hfit':xs.length<=4294967296:=by have:(xs.length:Int)<=4294967296:=(R9 _).1 hfit;omega
 refine calls_of_wp hf hs.body ?_;obtain⟨d0,d1,d2,d3,d4,d5,d6,d7⟩:=hs.d;obtain⟨g0,g1,g2,g3,g4,g5,g6,g7⟩:=hs.g;have hres:∀ (tm:Array Value) (w0:World),(results fn tm).run P w0 = .ok (tm.getD 2 undef) w0:=fun tm w0=>by simp[results,hs.res]
 refine wp_seq (wp_region ?_);simp only[ASl,ARy,ASD,ASV,ATi,ASO];refine Cz (by rfl) g0 (Cm (G7 hs.o00) ?_);refine wp_seq (wp_seq (wp_region ?_));simp only[ASl,ARy,ASD,ASV,ATi,ASO,ASG];refine Cz (by rfl) g1 (Cm (KR hs.o10) ?_);refine Cz (by rfl) g2 (Cm (u:=.bool A.isNone) (w':=w) (by simp[execOp,hs.o11,Act.eval,Act.put,d0,d1,hs.nt,eqGuard,Lib.run_eql_slice_nil _ _ _ _ _ _ _ _ hu]) ?_);cases A with
  |none=>
   have hxs:xs=[]:=by grind
   subst hxs;refine wp_cond_true (by simp[Act.eval,Act.put,d0,d1,d2,hs.nt]) ?_;refine wp_seq (wp_region ?_);simp only[ASl,ARy,ASD,ASV,ATi,ASO];refine Cz (by rfl) g3 (Cm (G7 hs.o20) ?_);refine wp_ret ?_;refine⟨by simp[Act.put,d0,d1,d2,d3],_,hres _ _,?_⟩;obtain⟨m',hg,hrep⟩:=EP (w:=w) hi hfree e hpos none;refine⟨_,rfl,F,m',hg,?_⟩;show Rep _ _ _ (H.set slot _) _ _;simpa [Act.put,Act.eval,d0,d1,d2,d3,hs.nt]using hrep
  |some ad=>
   refine wp_cond_false (by simp[Act.eval,Act.put,d0,d1,d2,hs.nt]) ?_;refine wp_skip ?_;refine wp_seq (wp_region ?_);simp only[ASl,ARy,ASD,ASV,ATi,ASO,ASG];refine Cz (by rfl) g4 (Cm (u:=.slice (some ⟨w.heap.size,0,none⟩) 0 0) (w':=w.alloc (.cells #[] e)) (by have:=IT (P:=P) (w:=w) (len:=0) (parts:=#[]) (us:=#[]) hu hi0 hz0 hsz (by omega) (by simp[Instr.fill]);simp[execOp,hs.o30,this]) ?_)
   refine Cz (by rfl) g5 (Cm (KR hs.o31) ?_);have hga:=BO.grow (w':=w.alloc (.cells #[] e)) hi rfl rfl rfl (by simp) (fun b hb=>Below.heap_alloc w _ b hb)
   obtain⟨v,w',m',hrun,hg,hrep⟩:=Fq (P:=P) (T:=T) (ty:=(CR fn 3 2).type) hga.2 hfree hu hi0 hz0 hzs hsz hpos hby' hfit' (some ⟨w.heap.size,0,none⟩) (A:=some ad) (c:=c) (ys:=xs) (news:=news) (fun _=>rfl)
    (B6 (fun x _ cs hx=>hx.mono (fun a ha=>by simp[World.cell?,Below.heap_alloc w _ _ (hi.lt _ ha)]) (fun _ h=>h) t') q4) (fun ad' h j u hu'=>by
     have:=q5 ad' h j u hu'
     exact Lib.cell?_alloc_some _ this)
   refine Cz (by rfl) g6 (Cm (u:=v) (w':=w') (by simp[execOp,hs.o32,resolve,invoke,builtin,Act.eval,Act.put,d0,d1,d2,d4,d5,hs.nt,hrun]) ?_)
   refine Cz (by rfl) g7 (Cm (G7 hs.o33) ?_);refine wp_ret ?_;refine⟨by simp[Act.put,d0,d1,d2,d4,d5,d6,d7],_,hres _ _,?_⟩;refine⟨_,rfl,F,m',hga.trans hg,?_⟩;show Rep _ _ _ (H.set slot _) _ _;simpa [Act.put,Act.eval,d0,d1,d2,d4,d5,d6,d7,hs.nt]using hrep
 grind;grind;grind;grind
theorem B4(e:TypeId)(t:Ty):Gf (Dj e t):=by
 intro R args H H' fz fz' slot k b;unfold Dj;cases args with
  |nil=>rfl
  |cons x r=>cases r with
   |cons y r=>rfl
   |nil=>
    simp only
    rw[Ce (.slice t) x fun id a=>b.heap id (by simpa [Bt]using a)]
    have:=Ef b (s:=slot) (ARo _) (by omega) []
    simp only[BF]at this
    rw[this]
end
abbrev U0:Ty:=(.int .i64)
abbrev U1:Ty:=(.prod U0 (.prod U0 (.prod U0 (.prod .bool .unit))))
abbrev U2:=(Int×Int×Int×Bool×Unit)
abbrev U3:Ty:=(.prod U0 (.prod U0 .unit))
abbrev U4:=(Int×Int×Unit)
abbrev U5:Ty:=(.slice U0)
abbrev U6:=(List Int)
abbrev U7:=(Int×Int×Int×Int×Unit)
abbrev U8:Ty:=(.slice U5)
abbrev U9:=(Int×Unit)
abbrev Ua:Ty:=(.prod U0 (.prod U0 U3))
abbrev Ub:=(Int×Int×Int×Unit)
abbrev Uc:=(Bool×Unit)
abbrev Ud:=(Int×(List U2)×Unit)
abbrev Ue:=(List Int×Unit)
abbrev Uf:=(List Int×Int×Int×Unit)
abbrev Ug:Ty:=(.int .u32)
abbrev Uh:=(List U7×Int×List Bool×List U6×Bool×Int×Int×List U2×Int×Unit)
abbrev Ui:Ty:=(.slice U1)
abbrev Uj:=(List Int×Int×Unit)
abbrev Uk:=(U6×U6×(List U6)×Unit)
abbrev Ul:Ty:=(.prod U0 (.prod U0 (.prod (.slice (.arr 2 U0)) .unit)))
abbrev Um:=(Int×Int)
abbrev Un:Ty:=(.prod U0 (.prod Ui .unit))
abbrev Uo:=(Int×(List U6)×Unit)
abbrev Up:=(List Int×List Int×Int×Int×Unit)
abbrev Uq:Ty:=(.slice .bool)
abbrev Ur:=(List Int×List Int×List U6×List U6×Int×Int×Int×Unit)
abbrev Us:=(Int×Int×(List U6)×Unit)
abbrev Ut:=(Int×List U2×Bool×Bool×Int×Int×Int×Int×Int×List Um×List Int×Int×Int×Unit)
abbrev Uu:Ty:=(.prod U5 (.prod U5 (.prod U8 .unit)))
abbrev Uv:=(List U7×Int×List Bool×List U6×Bool×Int×Int×Int×Int×Int×Bool×Int×Unit)
abbrev Uw:=(Int×Int×U6×Unit)
abbrev Ux:=(Bool×Bool×U4×Int×Unit)
abbrev Uy:Ty:=(.slice Ug)
abbrev Uz:=(List Int×List Int×List Int×Int×Int×Unit)
abbrev V0:Ty:=(.slice U3)
abbrev V1:Ty:=(.slice Ua)
abbrev V2:=(List Int×List Int×Unit)
abbrev V3:=(List Int×List Int×Int×Int×List Int×List Int×Int×Int×Unit)
abbrev V4:=(Ud×Int×Int×Unit)
abbrev V5:=(Int×List U6×List Um×Int×List U6×Int×Int×List Int×Int×Int×Bool×List Int×Bool×Bool×List Int×Int×List Int×Int×Bool×Int×List Int×Bool×Bool×List Int×Int×Int×Unit)
abbrev V6:Ty:=(.prod (.prod V1 (.prod U0 (.prod Uq .unit))) (.prod U8 (.prod .bool U3)))
abbrev V7:=(List U4×Unit)
abbrev V8:=(List U7×Int×List Bool×List U6×Bool×Int×Int×List Um×List U6×Int×Int×Unit)
abbrev V9:Ty:=(.prod .bool (.prod .bool (.prod U3 (.prod U0 .unit))))
abbrev Va:Ty:=(.slice (.prod U0 U3))
abbrev Vb:=(List Int×Int×Int×Int×List Int×Int×Int×Unit)
abbrev Vc:=(List U6×Int×List Int×List Int×List U6×Int×Int×Int×Int×Int×Unit)
abbrev Vd:=(U4×Int)
abbrev Ve:=(Int×List U2×Int×Int×Int×Int×Int×Int×List U6×Int×Int×Int×Int×List Uw×List (Int×(List U4)×(List Ub)×Unit)×Int×Int×Unit)
abbrev Vf:Ty:=(.prod U0 (.prod U0 (.prod U5 .unit)))
abbrev Vg:=(List Int×Int×List Int×Int×Int×List Int×List Int×Int×Int×Unit)
abbrev Vh:Ty:=(.prod U0 (.prod U8 .unit))
abbrev Vi:=(List Int×Int×List Int×List Int×List U6×List Int×Int×Int×Unit)
abbrev Vj:=(Int×List U2×List U4×Int×Unit)
abbrev Vk:=(Int×Bool×Bool×Int×Int×Int×Int×Int×Int×Bool×Int×List U2×Bool×Bool×Int×Int×Int×Int×Int×Unit)
abbrev Vl:=(List Int×Int×List U6×Int×Int×Unit)
abbrev Vm:=(List Int×Int×List U6×Unit)
abbrev Vn:=(Int×Bool×Int×Int×List U7×Int×List Bool×List U6×Bool×Int×Int×List U2×List U6×Int×Int×Unit)
abbrev LA:A1:=[(.tmp 0,.dat Ug)]
abbrev AA:Loc×Con:=(.tmp 0,.di)
abbrev BM:A1:=[AA]
abbrev A4:List RS:=[.one]
def wq[Lk]:U9->Option (U9):=fun(a,_)=>
 match(ile 65536 a)with
 |true=>match shr? .u32 a 16 with|none=>none|some b=>match(ile 256 b)with
  |true=>match shr? .u32 b 8 with|none=>none|some c=>match idx ([0,1,2,2,3,3,3,3,4,4,4,4,4,4,4,4,5,5,5,5,5,5,5,5,5,5,5,5,5,5,5,5,6,6,6,6,6,6,6,6,6,6,6,6,6,6,6,6,6,6,6,6,6,6,6,6,6,6,6,6,6,6,6,6,7,7,7,7,7,7,7,7,7,7,7,7,7,7,7,7,7,7,7,7,7,7,7,7,7,7,7,7,7,7,7,7,7,7,7,7,7,7,7,7,7,7,7,7,7,7,7,7,7,7,7,7,7,7,7,7,7,7,7,7,7,7,7,7,8,8,8,8,8,8,8,8,8,8,8,8,8,8,8,8,8,8,8,8,8,8,8,8,8,8,8,8,8,8,8,8,8,8,8,8,8,8,8,8,8,8,8,8,8,8,8,8,8,8,8,8,8,8,8,8,8,8,8,8,8,8,8,8,8,8,8,8,8,8,8,8,8,8,8,8,8,8,8,8,8,8,8,8,8,8,8,8,8,8,8,8,8,8,8,8,8,8,8,8,8,8,8,8,8,8,8,8,8,8,8,8,8,8,8,8,8,8,8,8,8,8,8,8,8,8,8,8]:List (Int)) (IntKind.wrap .u8 c)with|none=>none|some d=>some ((w64 ((w64 (16+8))+(w64 d))),())
  |false=>match idx ([0,1,2,2,3,3,3,3,4,4,4,4,4,4,4,4,5,5,5,5,5,5,5,5,5,5,5,5,5,5,5,5,6,6,6,6,6,6,6,6,6,6,6,6,6,6,6,6,6,6,6,6,6,6,6,6,6,6,6,6,6,6,6,6,7,7,7,7,7,7,7,7,7,7,7,7,7,7,7,7,7,7,7,7,7,7,7,7,7,7,7,7,7,7,7,7,7,7,7,7,7,7,7,7,7,7,7,7,7,7,7,7,7,7,7,7,7,7,7,7,7,7,7,7,7,7,7,7,8,8,8,8,8,8,8,8,8,8,8,8,8,8,8,8,8,8,8,8,8,8,8,8,8,8,8,8,8,8,8,8,8,8,8,8,8,8,8,8,8,8,8,8,8,8,8,8,8,8,8,8,8,8,8,8,8,8,8,8,8,8,8,8,8,8,8,8,8,8,8,8,8,8,8,8,8,8,8,8,8,8,8,8,8,8,8,8,8,8,8,8,8,8,8,8,8,8,8,8,8,8,8,8,8,8,8,8,8,8,8,8,8,8,8,8,8,8,8,8,8,8,8,8,8,8,8,8]:List (Int)) (IntKind.wrap .u8 b)with|none=>none|some e=>some ((w64 (16+(w64 e))),())
 |false=>match(ile 256 a)with
 |true=>match shr? .u32 a 8 with|none=>none|some f=>match idx ([0,1,2,2,3,3,3,3,4,4,4,4,4,4,4,4,5,5,5,5,5,5,5,5,5,5,5,5,5,5,5,5,6,6,6,6,6,6,6,6,6,6,6,6,6,6,6,6,6,6,6,6,6,6,6,6,6,6,6,6,6,6,6,6,7,7,7,7,7,7,7,7,7,7,7,7,7,7,7,7,7,7,7,7,7,7,7,7,7,7,7,7,7,7,7,7,7,7,7,7,7,7,7,7,7,7,7,7,7,7,7,7,7,7,7,7,7,7,7,7,7,7,7,7,7,7,7,7,8,8,8,8,8,8,8,8,8,8,8,8,8,8,8,8,8,8,8,8,8,8,8,8,8,8,8,8,8,8,8,8,8,8,8,8,8,8,8,8,8,8,8,8,8,8,8,8,8,8,8,8,8,8,8,8,8,8,8,8,8,8,8,8,8,8,8,8,8,8,8,8,8,8,8,8,8,8,8,8,8,8,8,8,8,8,8,8,8,8,8,8,8,8,8,8,8,8,8,8,8,8,8,8,8,8,8,8,8,8,8,8,8,8,8,8,8,8,8,8,8,8,8,8,8,8,8,8]:List (Int)) (IntKind.wrap .u8 f)with|none=>none|some g=>some ((w64 ((w64 (0+8))+(w64 g))),())
 |false=>match idx ([0,1,2,2,3,3,3,3,4,4,4,4,4,4,4,4,5,5,5,5,5,5,5,5,5,5,5,5,5,5,5,5,6,6,6,6,6,6,6,6,6,6,6,6,6,6,6,6,6,6,6,6,6,6,6,6,6,6,6,6,6,6,6,6,7,7,7,7,7,7,7,7,7,7,7,7,7,7,7,7,7,7,7,7,7,7,7,7,7,7,7,7,7,7,7,7,7,7,7,7,7,7,7,7,7,7,7,7,7,7,7,7,7,7,7,7,7,7,7,7,7,7,7,7,7,7,7,7,8,8,8,8,8,8,8,8,8,8,8,8,8,8,8,8,8,8,8,8,8,8,8,8,8,8,8,8,8,8,8,8,8,8,8,8,8,8,8,8,8,8,8,8,8,8,8,8,8,8,8,8,8,8,8,8,8,8,8,8,8,8,8,8,8,8,8,8,8,8,8,8,8,8,8,8,8,8,8,8,8,8,8,8,8,8,8,8,8,8,8,8,8,8,8,8,8,8,8,8,8,8,8,8,8,8,8,8,8,8,8,8,8,8,8,8,8,8,8,8,8,8,8,8,8,8,8,8]:List (Int)) (IntKind.wrap .u8 a)with|none=>none|some h=>some ((w64 (0+(w64 h))),())
def AN3[Lk]:=lkk wq
theorem AHH v:AN3 v=wq v:=A0 _
abbrev AB:Loc×Con:=(.tmp 1,.dat U5)
abbrev AD:Loc×Con:=(.tmp 0,.dat U5)
abbrev KP:A1:=[AD,AB]
abbrev AE:Loc×Con:=(.tmp 0,.dat .bool)
abbrev BH:A1:=[AE]
abbrev AF:Loc×Con:=(.tmp 5,.di)
abbrev ABi:A1:=[AD,AB,AF]
abbrev AG:Loc×Con:=(.tmp 4,.dat .bool)
abbrev Rv:BB:=[(.ret,[AG]),(.exit 0,[])]
def IC[Lk]:(List Int×List Int×Int×Unit)->Option ((List Int×List Int×Int×Unit)⊕Uc⊕(Unit)⊕Unit):=fun(b,c,a,_)=>
 match(ilt a (A2 b))with
 |true=>match idx b a with|none=>none|some d=>match idx c a with|none=>none|some e=>match(!(ieq d e))with
  |true=>some (.inr (.inl (false,())))
  |false=>some (.inl (b,c,(w64 (a+1)),()))
 |false=>some (.inr (.inr (.inl ())))
def YF[Lk]:V2->Option (Uc):=fun(a,b,_)=>
 match(!(ieq (A2 a) (A2 b)))with
 |true=>some (false,())
 |false=>match A6 IC many (a,b,0,())with|none=>none|some r=>match r with
 |.inl (c,_)=>some (c,())
 |.inr r=>match r with
 |.inl _=>some (true,())
 |.inr _=>none
def Jp[Lk]:=lkk YF
theorem cP v:Jp v=YF v:=A0 _
def Ww[Lk]:U9->Option (Uc):=fun(a,_)=>
 match(ile 1 a)with
 |true=>some ((ile a 64),())
 |false=>some (false,())
def OB[Lk]:=lkk Ww
theorem bA v:OB v=Ww v:=A0 _
abbrev AH:Loc×Con:=(.tmp 1,.di)
abbrev J4:A1:=[AA,AH]
def AEP[Lk]:U4->Option (Uc):=fun(a,b,_)=>
 match OB (a,())with|none=>none|some (c,_)=>match c with
 |true=>match(ile 0 b)with
  |true=>some ((ilt b a),())
  |false=>some (false,())
 |false=>some (false,())
def tin[Lk]:=lkk AEP
theorem AEO v:tin v=AEP v:=A0 _
abbrev AI:Loc×Con:=(.tmp 2,.di)
abbrev pZ:A1:=[AA,AH,AI]
def pc[Lk]:Ub->Option (U9):=fun(a,b,c,_)=>
 match(ieq b c)with
 |true=>some ((-1:Int),())
 |false=>match tin (a,b,())with|none=>none|some (d,_)=>match(!d)with
 |true=>some ((-1:Int),())
 |false=>match tin (a,c,())with|none=>none|some (e,_)=>match(!e)with
 |true=>some ((-1:Int),())
 |false=>some ((w64 ((w64 (a*(w64 (b+1))))+c)),())
def AEV[Lk]:=lkk pc
theorem vR v:AEV v=pc v:=A0 _
abbrev AJ:Loc×Con:=(.tmp 2,.dat .bool)
abbrev AD1:A1:=[AA,AH,AJ,(.tmp 3,.dat .bool)]
abbrev PT:List RS:=[.one,.one,.one,.one]
def Wv[Lk]:U4->Option ((Int×Int×Bool×Bool×Unit)):=fun(a,b,_)=>
 match OB (a,())with|none=>none|some (e,_)=>match(!e)with
 |true=>some (0,0,false,false,())
 |false=>match(ilt b 0)with
 |true=>some (0,0,false,false,())
 |false=>match(ile (w64 (a*(w64 (a+1)))) b)with
 |true=>some (0,0,false,false,())
 |false=>match(ilt b a)with
 |true=>some (b,0,false,true,())
 |false=>match quo? .i64 b a with|none=>none|some c=>match rem? b a with|none=>none|some d=>match(ieq (w64 (c-1)) d)with
 |true=>some (0,0,false,false,())
 |false=>some ((w64 (c-1)),d,true,true,())
def dg[Lk]:=lkk Wv
theorem az v:dg v=Wv v:=A0 _
abbrev AKC:A1:=[AA,(.tmp 1,.own 36 U5),AI]
abbrev vN:List RS:=[.agg 2,.one]
abbrev AK:Loc×Con:=(.cell 0 0,.di)
abbrev AL:Loc×Con:=(.cell 1 0,.di)
abbrev AM:Loc×Con:=(.tmp 4,.box 2)
abbrev AN:Loc×Con:=(.tmp 2,.box 2)
abbrev AO:Loc×Con:=(.tmp 13,.di)
abbrev AP:Loc×Con:=(.tmp 12,.di)
abbrev AEF:A1:=[AN,AK,(.cell 0 1,.nil U5),AM,AL,(.cell 1 1,.own 36 U5),AP,AO]
abbrev AEE:BB:=[(.exit 0,[AN,AK,(.cell 0 1,.nil U5),AM,AL,(.cell 1 1,.own 36 U5)])]
def L0[Lk]:(Int×Int×List U6×Int×Int×Unit)->Option ((Int×Int×List U6×Int×Int×Unit)⊕(Int×Int×List U6×Unit)⊕Unit):=fun(c,d,b,e,a,_)=>
 match(ilt a e)with
 |true=>match(fits ((A2 b)+(A2 ([([a]:List (Int))]:List U6))))with
  |true=>some (.inl (c,d,(Bk b ([([a]:List (Int))]:List U6)),e,(w64 (a+1)),()))
  |false=>none
 |false=>some (.inr (.inl (c,d,b,())))
def dt[Lk]:U9->Option ((Int×List U6×Int×Unit)):=fun(a,_)=>
 match OB (a,())with|none=>none|some (b,_)=>match(!b)with
 |true=>some (0,([]:List U6),1,())
 |false=>match A6 L0 many (0,a,([]:List U6),a,0,())with|none=>none|some r=>match r with
 |.inl (e,c,d,_)=>some (c,d,0,())
 |.inr _=>none
def vO[Lk]:=lkk dt
theorem jX v:vO v=dt v:=A0 _
abbrev MT:A1:=[AD,AH]
abbrev AQ:Loc×Con:=(.tmp 7,.di)
abbrev AR:Loc×Con:=(.tmp 8,.di)
abbrev ABk:A1:=[AD,AH,AQ,AR]
abbrev AS:Loc×Con:=(.tmp 4,.di)
abbrev FL:BB:=[(.ret,[AS]),(.exit 0,[])]
def Eg[Lk]:(List Int×Int×Int×Int×Unit)->Option ((List Int×Int×Int×Int×Unit)⊕U9⊕(Unit)⊕Unit):=fun(b,c,d,a,_)=>
 match(ilt a d)with
 |true=>match idx b a with|none=>none|some e=>match(ieq c e)with
  |true=>some (.inr (.inl (a,())))
  |false=>some (.inl (b,c,d,(w64 (a+1)),()))
 |false=>some (.inr (.inr (.inl ())))
def QF[Lk]:Uj->Option (U9):=fun(a,b,_)=>
 match A6 Eg many (a,b,(A2 a),0,())with|none=>none|some r=>match r with
 |.inl (c,_)=>some (c,())
 |.inr r=>match r with
 |.inl _=>some ((-1:Int),())
 |.inr _=>none
def MU[Lk]:=lkk QF
theorem R0 v:MU v=QF v:=A0 _
def Mv[Lk]:Uj->Option (Uc):=fun(a,b,_)=>
 match MU (a,b,())with|none=>none|some (c,_)=>some ((ile 0 c),())
def GW[Lk]:=lkk Mv
theorem Qt v:GW v=Mv v:=A0 _
abbrev Oc:A1:=[AD]
abbrev AT:Loc×Con:=(.tmp 3,.di)
abbrev wT:A1:=[AD,AT,AS]
abbrev fP:BB:=[(.exit 0,[AT])]
def Pw[Lk]:Uf->Option (Uf⊕U9⊕Unit):=fun(a,c,b,_)=>
 match(ilt b (A2 a))with
 |true=>match idx a b with|none=>none|some d=>some (.inl (a,(Cn c d),(w64 (b+1)),()))
 |false=>some (.inr (.inl (c,())))
def sN[Lk]:Ue->Option (U9):=fun(a,_)=>
 match(ilt (A2 a) 1)with
 |true=>none
 |false=>match idx a 0 with|none=>none|some b=>match A6 Pw many (a,b,1,())with|none=>none|some r=>match r with
 |.inl (c,_)=>some (c,())
 |.inr _=>none
def AG4[Lk]:=lkk sN
theorem wU v:AG4 v=sN v:=A0 _
abbrev AMi:A1:=[(.tmp 0,.nil U0),AH]
abbrev AU:Loc×Con:=(.tmp 0,.own 3 U0)
abbrev Ey:A1:=[AU]
def gG[Lk]:U9->Option (Ue):=fun(a,_)=>
 match(ilt a 0)with
 |true=>none
 |false=>match(ilt 0 (w64 (a-(w64 (0-0)))))with
 |true=>match D0 ([]:List Unit) 0 0 with|none=>none|some _u0=>match(CC (w64 (a-(w64 (0-0)))))with
  |true=>match D0 (C5 (A3 (w64 (a-(w64 ((0:Int)-(0:Int)))))) (0:Int)) (0:Int) (0:Int)with|none=>none|some b=>some ((C1 (A3 (A2 b)) (C5 (A3 (w64 (a-(w64 ((0:Int)-(0:Int)))))) (0:Int))),())
  |false=>none
 |false=>some (([]:List (Int)),())
def w6[Lk]:=lkk gG
theorem mh v:w6 v=gG v:=A0 _
abbrev AW:Loc×Con:=(.tmp 0,.dat U8)
abbrev ACz:A1:=[AW]
abbrev AX:Loc×Con:=(.tmp 6,.own 3 U0)
abbrev AY:Loc×Con:=(.tmp 27,.di)
abbrev AZ:Loc×Con:=(.tmp 26,.di)
abbrev uV:A1:=[AX,(.tmp 25,.dat U8),AZ,AY]
abbrev uT:BB:=[(.exit 2,[AX])]
def I0[Lk]:(List Int×List U6×Int×Int×Unit)->Option ((List Int×List U6×Int×Int×Unit)⊕Ue⊕Unit):=fun(a,c,d,b,_)=>
 match(ilt b d)with
 |true=>match idx c b with|none=>none|some e=>match(fits ((A2 a)+(A2 e)))with
  |true=>some (.inl ((Bk a e),c,d,(w64 (b+1)),()))
  |false=>none
 |false=>some (.inr (.inl (a,())))
abbrev Aa:Loc×Con:=(.tmp 10,.di)
abbrev Ab:Loc×Con:=(.tmp 11,.di)
abbrev uW:A1:=[AW,AT,(.tmp 9,.dat U8),Aa,Ab]
abbrev uU:BB:=[(.exit 0,[AW,AT])]
def I1[Lk]:(List U6×Int×List U6×Int×Int×Unit)->Option ((List U6×Int×List U6×Int×Int×Unit)⊕(List U6×Int×Unit)⊕Unit):=fun(c,a,d,e,b,_)=>
 match(ilt b e)with
 |true=>match idx d b with|none=>none|some f=>match(ilt (w64 (a+(A2 f))) 0)with
  |true=>none
  |false=>some (.inl (c,(w64 (a+(A2 f))),d,e,(w64 (b+1)),()))
 |false=>some (.inr (.inl (c,a,())))
def SS[Lk]:(List U6×Unit)->Option (Ue):=fun(a,_)=>
 match A6 I1 many (a,0,a,(A2 a),0,())with|none=>none|some r=>match r with
 |.inl (b,c,_)=>match w6 (c,())with|none=>none|some (d,_)=>match A6 I0 many (d,b,(A2 b),0,())with|none=>none|some r=>match r with
  |.inl (e,_)=>some (e,())
  |.inr _=>none
 |.inr _=>none
def LV[Lk]:=lkk SS
theorem Yy v:LV v=SS v:=A0 _
abbrev Mb:A1:=[AD,(.tmp 1,.clo 207 [])]
abbrev Tc:A1:=[AD,(.tmp 1,.clo 207 []),AQ,AR]
def D3[Lk]:Uf->Option (Uf⊕U9⊕(Unit)⊕Unit):=fun(b,c,a,_)=>
 match(ilt a c)with
 |true=>match idx b a with|none=>none|some d=>match(ilt d 0)with
  |true=>some (.inr (.inl (a,())))
  |false=>match(ilt 10000 d)with
  |true=>some (.inr (.inl (a,())))
  |false=>some (.inl (b,c,(w64 (a+1)),()))
 |false=>some (.inr (.inr (.inl ())))
def Iq[Lk]:Ue->Option (U9):=fun(a,_)=>
 match A6 D3 many (a,(A2 a),0,())with|none=>none|some r=>match r with
 |.inl (b,_)=>some (b,())
 |.inr r=>match r with
 |.inl _=>some ((-1:Int),())
 |.inr _=>none
def LJ[Lk]:=lkk Iq
theorem Li v:LJ v=Iq v:=A0 _
abbrev Ac:Loc×Con:=(.tmp 3,.map U0 U0)
abbrev Ad:Loc×Con:=(.tmp 9,.di)
abbrev ALo:A1:=[AD,Ac,(.tmp 7,.dat U5),AR,Ad]
abbrev ALn:BB:=[(.exit 0,[AD,Ac])]
def Pu[Lk]:(List Int×List Um×List Int×Int×Int×Unit)->Option ((List Int×List Um×List Int×Int×Int×Unit)⊕(List Int×List Um×Unit)⊕Unit):=fun(c,a,d,e,b,_)=>
 match(ilt b e)with
 |true=>match idx d b with|none=>none|some f=>some (.inl (c,(BI a f (w64 (((A9 a f).getD 0)+1))),d,e,(w64 (b+1)),()))
 |false=>some (.inr (.inl (c,a,())))
def sJ[Lk]:Ue->Option (Uc):=fun(a,_)=>
 match A6 Pu many (a,([]:List Um),a,(A2 a),0,())with|none=>none|some r=>match r with
 |.inl (b,c,_)=>some ((ieq (A2 c) (A2 b)),())
 |.inr _=>none
def once[Lk]:=lkk sJ
theorem wP v:once v=sJ v:=A0 _
def Wt[Lk]:Uj->Option (Ue):=fun(a,b,_)=>
 match D0 a b (A2 a)with|none=>none|some c=>match D0 a 0 b with|none=>none|some d=>match LV (([c,d]:List U6),())with|none=>none|some (e,_)=>some (e,())
def Wu[Lk]:=lkk Wt
theorem ay v:Wu v=Wt v:=A0 _
abbrev R2:A1:=[AW,(.cap 1 0,.box 1),AK,(.tmp 1,.clo 230 [(0,0)])]
abbrev Ae:Loc×Con:=(.obj 0,.box 1)
abbrev R1:A1:=[Ae,AK,AA]
abbrev QL:A1:=[Ae,AK,AW,(.tmp 1,.clo 230 [(0,0)]),AQ,AR]
abbrev QK:BB:=[(.ret,[Ae,AK,AS]),(.exit 0,[Ae,AK])]
def DP[Lk]:(Int×List U6×Int×Int×Unit)->Option ((Int×List U6×Int×Int×Unit)⊕U4⊕U9⊕Unit):=fun(a,c,d,b,_)=>
 match(ilt b d)with
 |true=>match idx c b with|none=>none|some e=>match GW (e,a,())with|none=>none|some (f,_)=>match f with
  |true=>some (.inr (.inl (a,b,())))
  |false=>some (.inl (a,c,d,(w64 (b+1)),()))
 |false=>some (.inr (.inr (.inl (a,()))))
def GQ[Lk]:(List U6×Int×Unit)->Option (U4):=fun(a,b,_)=>
 match A6 DP many (b,a,(A2 a),0,())with|none=>none|some r=>match r with
 |.inl (c,d,_)=>some (c,d,())
 |.inr r=>match r with
 |.inl (e,_)=>some (e,(-1:Int),())
 |.inr _=>none
def Io[Lk]:=lkk GQ
theorem JV v:Io v=GQ v:=A0 _
abbrev Af:Loc×Con:=(.tmp 0,.dat Vh)
abbrev J2:A1:=[Af,AH]
def W4[Lk]:(Uo×Int×Unit)->Option (U9):=fun(a,b,_)=>
 match Io (a.2.1,b,())with|none=>none|some (d,c,_)=>some (c,())
def RT[Lk]:=lkk W4
theorem bD v:RT v=W4 v:=A0 _
abbrev APj:A1:=[AA,AB]
abbrev AMp:A1:=[AA,(.tmp 5,.box 3),(.cell 0 0,.own 3 U0),(.cell 0 1,.map U0 U0),(.cell 0 2,.map U0 U0),(.tmp 30,.dat U5),(.tmp 31,.di),(.tmp 32,.di)]
abbrev AMo:BB:=[(.ret,[AG]),(.exit 0,[(.tmp 5,.box 3),(.cell 0 0,.own 3 U0),(.cell 0 1,.map U0 U0),(.cell 0 2,.map U0 U0)])]
def NS[Lk]:(Int×List Int×List Um×List Um×List Int×Int×Int×Unit)->Option ((Int×List Int×List Um×List Um×List Int×Int×Int×Unit)⊕Uc⊕(List Int×List Um×List Um×Unit)⊕Unit):=fun(g,a,c,d,h,i,f,_)=>
 match(ilt f i)with
 |true=>match idx h f with|none=>none|some l=>match dg (g,l,())with|none=>none|some (e,b,j,m,_)=>match(!m)with
  |true=>some (.inr (.inl (false,())))
  |false=>match j with
  |true=>match idx a (w64 ((A2 a)-1))with|none=>none|some n=>match(!(ieq (A5 a (A3 (w64 ((A2 a)-1))) 0) e))with
   |true=>some (.inr (.inl (false,())))
   |false=>match(ilt 0 (w64 ((A2 a)-1)))with
   |true=>match idx a (w64 ((w64 ((A2 a)-1))-1))with|none=>none|some o=>match(ieq (A5 a (A3 (w64 ((w64 ((A2 a)-1))-1))) 0) b)with
    |true=>match D0 a 0 (w64 ((A2 a)-1))with|none=>none|some k=>match(!j)with
     |true=>match idx (HP 0 (A3 (A2 k)) a) (w64 ((((A3 (A2 k)):Nat):Int)-1))with|none=>none|some p=>match(!(ieq (A5 a (0+(A3 (w64 ((((A3 (A2 k)):Nat):Int)-1)))) 0) e))with
      |true=>some (.inr (.inl (false,())))
      |false=>match(!j)with
      |true=>some (.inl (g,(C1 (A3 (A2 k)) a),c,(BI d e (w64 (((A9 d e).getD 0)+1))),h,i,(w64 (f+1)),()))
      |false=>some (.inl (g,(C1 (A3 (A2 k)) a),c,d,h,i,(w64 (f+1)),()))
     |false=>match(!j)with
     |true=>some (.inl (g,(C1 (A3 (A2 k)) a),c,(BI d e (w64 (((A9 d e).getD 0)+1))),h,i,(w64 (f+1)),()))
     |false=>some (.inl (g,(C1 (A3 (A2 k)) a),c,d,h,i,(w64 (f+1)),()))
    |false=>match(ilt 0 ((A9 c b).getD 0))with
    |true=>some (.inr (.inl (false,())))
    |false=>match(fits ((A2 a)+(A2 ([b]:List (Int)))))with
    |true=>match(!j)with
     |true=>match idx (Bk a ([b]:List (Int))) (w64 ((A2 (Bk a ([b]:List (Int))))-1))with|none=>none|some q=>match(!(ieq (A5 (Bk a ([b]:List (Int))) (A3 (w64 ((A2 (Bk a ([b]:List (Int))))-1))) 0) e))with
      |true=>some (.inr (.inl (false,())))
      |false=>match(!j)with
      |true=>some (.inl (g,(Bk a ([b]:List (Int))),(BI c b (w64 (((A9 c b).getD 0)+1))),(BI d e (w64 (((A9 d e).getD 0)+1))),h,i,(w64 (f+1)),()))
      |false=>some (.inl (g,(Bk a ([b]:List (Int))),(BI c b (w64 (((A9 c b).getD 0)+1))),d,h,i,(w64 (f+1)),()))
     |false=>match(!j)with
     |true=>some (.inl (g,(Bk a ([b]:List (Int))),(BI c b (w64 (((A9 c b).getD 0)+1))),(BI d e (w64 (((A9 d e).getD 0)+1))),h,i,(w64 (f+1)),()))
     |false=>some (.inl (g,(Bk a ([b]:List (Int))),(BI c b (w64 (((A9 c b).getD 0)+1))),d,h,i,(w64 (f+1)),()))
    |false=>none
   |false=>match(ilt 0 ((A9 c b).getD 0))with
   |true=>some (.inr (.inl (false,())))
   |false=>match(fits ((A2 a)+(A2 ([b]:List (Int)))))with
   |true=>match(!j)with
    |true=>match idx (Bk a ([b]:List (Int))) (w64 ((A2 (Bk a ([b]:List (Int))))-1))with|none=>none|some r=>match(!(ieq (A5 (Bk a ([b]:List (Int))) (A3 (w64 ((A2 (Bk a ([b]:List (Int))))-1))) 0) e))with
     |true=>some (.inr (.inl (false,())))
     |false=>match(!j)with
     |true=>some (.inl (g,(Bk a ([b]:List (Int))),(BI c b (w64 (((A9 c b).getD 0)+1))),(BI d e (w64 (((A9 d e).getD 0)+1))),h,i,(w64 (f+1)),()))
     |false=>some (.inl (g,(Bk a ([b]:List (Int))),(BI c b (w64 (((A9 c b).getD 0)+1))),d,h,i,(w64 (f+1)),()))
    |false=>match(!j)with
    |true=>some (.inl (g,(Bk a ([b]:List (Int))),(BI c b (w64 (((A9 c b).getD 0)+1))),(BI d e (w64 (((A9 d e).getD 0)+1))),h,i,(w64 (f+1)),()))
    |false=>some (.inl (g,(Bk a ([b]:List (Int))),(BI c b (w64 (((A9 c b).getD 0)+1))),d,h,i,(w64 (f+1)),()))
   |false=>none
  |false=>match(!j)with
  |true=>match idx a (w64 ((A2 a)-1))with|none=>none|some s=>match(!(ieq (A5 a (A3 (w64 ((A2 a)-1))) 0) e))with
   |true=>some (.inr (.inl (false,())))
   |false=>match(!j)with
   |true=>some (.inl (g,a,c,(BI d e (w64 (((A9 d e).getD 0)+1))),h,i,(w64 (f+1)),()))
   |false=>some (.inl (g,a,c,d,h,i,(w64 (f+1)),()))
  |false=>match(!j)with
  |true=>some (.inl (g,a,c,(BI d e (w64 (((A9 d e).getD 0)+1))),h,i,(w64 (f+1)),()))
  |false=>some (.inl (g,a,c,d,h,i,(w64 (f+1)),()))
 |false=>some (.inr (.inr (.inl (a,c,d,()))))
def tB[Lk]:(Int×List Int×Unit)->Option (Uc):=fun(b,a,_)=>
 match idx a 0 with|none=>none|some c=>match tin (b,c,())with|none=>none|some (d,_)=>match(!d)with
 |true=>some (false,())
 |false=>match idx a 0 with|none=>none|some e=>match idx a 0 with|none=>none|some f=>match A6 NS many (b,([e]:List (Int)),(BI ([]:List Um) f 1),([]:List Um),a,(A2 a),0,())with|none=>none|some r=>match r with
 |.inl (g,_)=>some (g,())
 |.inr r=>match r with
 |.inl (h,i,j,_)=>match(ieq (A2 h) 1)with
  |true=>some ((ieq (A2 j) (A2 i)),())
  |false=>some (false,())
 |.inr _=>none
def goes[Lk]:=lkk tB
theorem w8 v:goes v=tB v:=A0 _
def K5[Lk]:U9->Option (Uc):=fun(a,_)=>
 some ((!(ieq a a)),())
def AAs[Lk]:=lkk K5
theorem JP v:AAs v=K5 v:=A0 _
def GY[Lk]:U4->Option (U9):=fun(a,b,_)=>
 match AAs (a,())with|none=>none|some (d,_)=>match AAs (b,())with|none=>none|some (c,_)=>match d with
 |true=>match c with
  |true=>some (0,())
  |false=>some ((-1:Int),())
 |false=>match c with
 |true=>some (1,())
 |false=>match(ilt a b)with
 |true=>some ((-1:Int),())
 |false=>match(ilt b a)with
 |true=>some (1,())
 |false=>some (0,())
def D6[Lk]:=lkk GY
theorem HB v:D6 v=GY v:=A0 _
def dT[Lk]:V2->Option (U9):=fun(a,b,_)=>
 match idx a 0 with|none=>none|some c=>match idx b 0 with|none=>none|some d=>match D6 (c,d,())with|none=>none|some (e,_)=>some (e,())
def Cr[Lk]:=lkk dT
theorem jN v:Cr v=dT v:=A0 _
def HM:List Int:=[0,1,2,2,3,3,3,3,4,4,4,4,4,4,4,4,5,5,5,5,5,5,5,5,5,5,5,5,5,5,5,5,6,6,6,6,6,6,6,6,6,6,6,6,6,6,6,6,6,6,6,6,6,6,6,6,6,6,6,6,6,6,6,6,7,7,7,7,7,7,7,7,7,7,7,7,7,7,7,7,7,7,7,7,7,7,7,7,7,7,7,7,7,7,7,7,7,7,7,7,7,7,7,7,7,7,7,7,7,7,7,7,7,7,7,7,7,7,7,7,7,7,7,7,7,7,7,7,8,8,8,8,8,8,8,8,8,8,8,8,8,8,8,8,8,8,8,8,8,8,8,8,8,8,8,8,8,8,8,8,8,8,8,8,8,8,8,8,8,8,8,8,8,8,8,8,8,8,8,8,8,8,8,8,8,8,8,8,8,8,8,8,8,8,8,8,8,8,8,8,8,8,8,8,8,8,8,8,8,8,8,8,8,8,8,8,8,8,8,8,8,8,8,8,8,8,8,8,8,8,8,8,8,8,8,8,8,8,8,8,8,8,8,8,8,8,8,8,8,8,8,8,8,8,8,8]
abbrev fU:A1:=[(.tmp 0,.dat (.int .u64))]
def fV[Lk]:U9->Option (U9):=fun(a,_)=>
 match(ile 4294967296 a)with
 |true=>match shr? .u64 a 32 with|none=>none|some b=>match(ile 65536 b)with
  |true=>match shr? .u64 b 16 with|none=>none|some c=>match(ile 256 c)with
   |true=>match shr? .u64 c 8 with|none=>none|some e=>match idx HM (IntKind.wrap .u8 e)with|none=>none|some f=>some ((w64 ((w64 ((w64 (32+16))+8))+(w64 f))),())
   |false=>match idx HM (IntKind.wrap .u8 c)with|none=>none|some g=>some ((w64 ((w64 (32+16))+(w64 g))),())
  |false=>match(ile 256 b)with
  |true=>match shr? .u64 b 8 with|none=>none|some h=>match idx HM (IntKind.wrap .u8 h)with|none=>none|some i=>some ((w64 ((w64 (32+8))+(w64 i))),())
  |false=>match idx HM (IntKind.wrap .u8 b)with|none=>none|some j=>some ((w64 (32+(w64 j))),())
 |false=>match(ile 65536 a)with
 |true=>match shr? .u64 a 16 with|none=>none|some d=>match(ile 256 d)with
  |true=>match shr? .u64 d 8 with|none=>none|some k=>match idx HM (IntKind.wrap .u8 k)with|none=>none|some l=>some ((w64 ((w64 ((w64 (0+16))+8))+(w64 l))),())
  |false=>match idx HM (IntKind.wrap .u8 d)with|none=>none|some m=>some ((w64 ((w64 (0+16))+(w64 m))),())
 |false=>match(ile 256 a)with
 |true=>match shr? .u64 a 8 with|none=>none|some n=>match idx HM (IntKind.wrap .u8 n)with|none=>none|some o=>some ((w64 ((w64 (0+8))+(w64 o))),())
 |false=>match idx HM (IntKind.wrap .u8 a)with|none=>none|some p=>some ((w64 (0+(w64 p))),())
def wo[Lk]:=lkk fV
theorem mO v:wo v=fV v:=A0 _
def Sb[Lk]:U9->Option (U9):=fun(a,_)=>
 match wo (a,())with|none=>none|some (b,_)=>some (b,())
def bitsLen[Lk]:=lkk Sb
theorem Y' v:bitsLen v=Sb v:=A0 _
abbrev xi:A1:=[(.tmp 0,.box 1),(.cell 0 0,.dat (.int .u64))]
abbrev xh:A1:=[Ae,(.cell 0 0,.dat (.int .u64)),(.tmp 0,.dat (.int .u64))]
def RJ[Lk]:U9->Option (U4):=fun(a,_)=>
 match shl? .u64 a 13 with|none=>none|some b=>match shr? .u64 (IntKind.wrap .u64 ((BitVec.ofInt (IntKind.bits .u64) a ^^^ BitVec.ofInt (IntKind.bits .u64) b).toNat)) 7 with|none=>none|some c=>match shl? .u64 (IntKind.wrap .u64 ((BitVec.ofInt (IntKind.bits .u64) (IntKind.wrap .u64 ((BitVec.ofInt (IntKind.bits .u64) a ^^^ BitVec.ofInt (IntKind.bits .u64) b).toNat)) ^^^ BitVec.ofInt (IntKind.bits .u64) c).toNat)) 17 with|none=>none|some d=>some ((IntKind.wrap .u64 ((BitVec.ofInt (IntKind.bits .u64) (IntKind.wrap .u64 ((BitVec.ofInt (IntKind.bits .u64) (IntKind.wrap .u64 ((BitVec.ofInt (IntKind.bits .u64) a ^^^ BitVec.ofInt (IntKind.bits .u64) b).toNat)) ^^^ BitVec.ofInt (IntKind.bits .u64) c).toNat)) ^^^ BitVec.ofInt (IntKind.bits .u64) d).toNat)),(IntKind.wrap .u64 ((BitVec.ofInt (IntKind.bits .u64) (IntKind.wrap .u64 ((BitVec.ofInt (IntKind.bits .u64) (IntKind.wrap .u64 ((BitVec.ofInt (IntKind.bits .u64) a ^^^ BitVec.ofInt (IntKind.bits .u64) b).toNat)) ^^^ BitVec.ofInt (IntKind.bits .u64) c).toNat)) ^^^ BitVec.ofInt (IntKind.bits .u64) d).toNat)),())
def xorNext[Lk]:=lkk RJ
theorem VS v:xorNext v=RJ v:=A0 _
def Rj[Lk]:U9->Option (U9):=fun(a,_)=>
 match bitsLen ((IntKind.wrap .u64 a),())with|none=>none|some (b,_)=>match shl? .u64 1 b with|none=>none|some c=>some (c,())
def UW[Lk]:=lkk Rj
theorem X3 v:UW v=Rj v:=A0 _
abbrev tLt[Lk](y:Int):Bool:=ilt y (0:Int)
abbrev tId[Lk](y:Bool):Bool:=y
def UZ[Lk]{α β:Type}(z:α)(c:α×α×Unit->Option (β×Unit))(t:β->Bool):(List α×Int×Int×Int×Int×Unit)->Option ((List α×Int×Int×Int×Int×Unit)⊕(List α×Int×Int×Int×Unit)⊕Unit):=fun(b,d,e,f,a,_)=>
 match(ilt d a)with
 |true=>match idx b a with|none=>none|some h=>match idx b (w64 (a-1))with|none=>none|some i=>match c ((A5 b (A3 a) z),(A5 b (A3 (w64 (a-1))) z),())with|none=>none|some (g,_)=>match(t g)with
  |true=>match idx b (w64 (a-1))with|none=>none|some j=>match idx b a with|none=>none|some k=>match idx b a with|none=>none|some l=>match idx (Ba b (A3 a) (A5 b (A3 (w64 (a-1))) z)) (w64 (a-1))with|none=>none|some m=>some (.inl ((Ba (Ba b (A3 a) (A5 b (A3 (w64 (a-1))) z)) (A3 (w64 (a-1))) (A5 b (A3 a) z)),d,e,f,(w64 (a-1)),()))
  |false=>some (.inr (.inl (b,d,e,f,())))
 |false=>some (.inr (.inl (b,d,e,f,())))
def U_[Lk]{α β:Type}(z:α)(c:α×α×Unit->Option (β×Unit))(t:β->Bool):(List α×Int×Int×Int×Unit)->Option ((List α×Int×Int×Int×Unit)⊕(List α×Unit)⊕Unit):=fun(b,e,d,a,_)=>
 match(ilt a d)with
 |true=>match A6 (UZ z c t) many (b,e,d,a,a,())with|none=>none|some r=>match r with
  |.inl (f,g,h,i,_)=>some (.inl (f,g,h,(w64 (i+1)),()))
  |.inr _=>none
 |false=>some (.inr (.inl (b,())))
def On[Lk]{α β:Type}(z:α)(c:α×α×Unit->Option (β×Unit))(t:β->Bool):(List α×Int×Int×Unit)->Option ((List α×Unit)):=fun(b,a,d,_)=>
 match A6 (U_ z c t) many (b,a,d,(w64 (a+1)),())with|none=>none|some r=>match r with
 |.inl (e,_)=>some (e,())
 |.inr _=>none
def s8[Lk]{α β:Type}(z:α)(c:α×α×Unit->Option (β×Unit))(t:β->Bool)(v:(List α×Int×Int×Unit)):Option ((List α×Unit)):=Lk.f ((On z c t) v)
theorem AMR{α β:Type}(z:α)(c:α×α×Unit->Option (β×Unit))(t:β->Bool)(v:(List α×Int×Int×Unit)):(s8 z c t) v=(On z c t) v:=A0 _
def Pd[Lk]{α β:Type}(z:α)(c:α×α×Unit->Option (β×Unit))(t:β->Bool):(List α×Int×Int×Int×Unit)->Option ((List α×Int×Int×Int×Unit)⊕(List α×Unit)⊕(List α×Unit)⊕Unit):=fun(d,e,b,a,_)=>
 match(ile e (w64 ((w64 (2*a))+1)))with
 |true=>some (.inr (.inl (d,())))
 |false=>match(ilt (w64 ((w64 ((w64 (2*a))+1))+1)) e)with
 |true=>match idx d (w64 (b+(w64 ((w64 (2*a))+1))))with|none=>none|some j=>match idx d (w64 ((w64 (b+(w64 ((w64 (2*a))+1))))+1))with|none=>none|some k=>match c ((A5 d (A3 (w64 (b+(w64 ((w64 (2*a))+1))))) z),(A5 d (A3 (w64 ((w64 (b+(w64 ((w64 (2*a))+1))))+1))) z),())with|none=>none|some (f,_)=>match(t f)with
  |true=>match idx d (w64 (b+a))with|none=>none|some l=>match idx d (w64 (b+(w64 ((w64 ((w64 (2*a))+1))+1))))with|none=>none|some m=>match c ((A5 d (A3 (w64 (b+a))) z),(A5 d (A3 (w64 (b+(w64 ((w64 ((w64 (2*a))+1))+1))))) z),())with|none=>none|some (g,_)=>match(!(t g))with
   |true=>some (.inr (.inr (.inl (d,()))))
   |false=>match idx d (w64 (b+(w64 ((w64 ((w64 (2*a))+1))+1))))with|none=>none|some n=>match idx d (w64 (b+a))with|none=>none|some o=>match idx d (w64 (b+a))with|none=>none|some p=>match idx (Ba d (A3 (w64 (b+a))) (A5 d (A3 (w64 (b+(w64 ((w64 ((w64 (2*a))+1))+1))))) z)) (w64 (b+(w64 ((w64 ((w64 (2*a))+1))+1))))with|none=>none|some q=>some (.inl ((Ba (Ba d (A3 (w64 (b+a))) (A5 d (A3 (w64 (b+(w64 ((w64 ((w64 (2*a))+1))+1))))) z)) (A3 (w64 (b+(w64 ((w64 ((w64 (2*a))+1))+1))))) (A5 d (A3 (w64 (b+a))) z)),e,b,(w64 ((w64 ((w64 (2*a))+1))+1)),()))
  |false=>match idx d (w64 (b+a))with|none=>none|some r=>match idx d (w64 (b+(w64 ((w64 (2*a))+1))))with|none=>none|some s=>match c ((A5 d (A3 (w64 (b+a))) z),(A5 d (A3 (w64 (b+(w64 ((w64 (2*a))+1))))) z),())with|none=>none|some (h,_)=>match(!(t h))with
  |true=>some (.inr (.inr (.inl (d,()))))
  |false=>match idx d (w64 (b+(w64 ((w64 (2*a))+1))))with|none=>none|some u=>match idx d (w64 (b+a))with|none=>none|some v=>match idx d (w64 (b+a))with|none=>none|some w=>match idx (Ba d (A3 (w64 (b+a))) (A5 d (A3 (w64 (b+(w64 ((w64 (2*a))+1))))) z)) (w64 (b+(w64 ((w64 (2*a))+1))))with|none=>none|some x=>some (.inl ((Ba (Ba d (A3 (w64 (b+a))) (A5 d (A3 (w64 (b+(w64 ((w64 (2*a))+1))))) z)) (A3 (w64 (b+(w64 ((w64 (2*a))+1))))) (A5 d (A3 (w64 (b+a))) z)),e,b,(w64 ((w64 (2*a))+1)),()))
 |false=>match idx d (w64 (b+a))with|none=>none|some y=>match idx d (w64 (b+(w64 ((w64 (2*a))+1))))with|none=>none|some A=>match c ((A5 d (A3 (w64 (b+a))) z),(A5 d (A3 (w64 (b+(w64 ((w64 (2*a))+1))))) z),())with|none=>none|some (i,_)=>match(!(t i))with
 |true=>some (.inr (.inr (.inl (d,()))))
 |false=>match idx d (w64 (b+(w64 ((w64 (2*a))+1))))with|none=>none|some B=>match idx d (w64 (b+a))with|none=>none|some C=>match idx d (w64 (b+a))with|none=>none|some D=>match idx (Ba d (A3 (w64 (b+a))) (A5 d (A3 (w64 (b+(w64 ((w64 (2*a))+1))))) z)) (w64 (b+(w64 ((w64 (2*a))+1))))with|none=>none|some E=>some (.inl ((Ba (Ba d (A3 (w64 (b+a))) (A5 d (A3 (w64 (b+(w64 ((w64 (2*a))+1))))) z)) (A3 (w64 (b+(w64 ((w64 (2*a))+1))))) (A5 d (A3 (w64 (b+a))) z)),e,b,(w64 ((w64 (2*a))+1)),()))
def Kx[Lk]{α β:Type}(z:α)(c:α×α×Unit->Option (β×Unit))(t:β->Bool):(List α×Int×Int×Int×Unit)->Option ((List α×Unit)):=fun(a,b,d,e,_)=>
 match A6 (Pd z c t) many (a,d,e,b,())with|none=>none|some r=>match r with
 |.inl (f,_)=>some (f,())
 |.inr r=>match r with
 |.inl (g,_)=>some (g,())
 |.inr _=>none
def Sl[Lk]{α β:Type}(z:α)(c:α×α×Unit->Option (β×Unit))(t:β->Bool)(v:(List α×Int×Int×Int×Unit)):Option ((List α×Unit)):=Lk.f ((Kx z c t) v)
theorem AEw{α β:Type}(z:α)(c:α×α×Unit->Option (β×Unit))(t:β->Bool)(v:(List α×Int×Int×Int×Unit)):(Sl z c t) v=(Kx z c t) v:=A0 _
def QY[Lk]{α β:Type}(z:α)(c:α×α×Unit->Option (β×Unit))(t:β->Bool):(List α×Int×Int×Int×Unit)->Option ((List α×Int×Int×Int×Unit)⊕(List α×Unit)⊕Unit):=fun(b,a,e,d,_)=>
 match(ile 0 d)with
 |true=>match idx b (w64 (a+d))with|none=>none|some g=>match idx b a with|none=>none|some h=>match idx b a with|none=>none|some i=>match idx (Ba b (A3 a) (A5 b (A3 (w64 (a+d))) z)) (w64 (a+d))with|none=>none|some j=>match(Sl z c t) ((Ba (Ba b (A3 a) (A5 b (A3 (w64 (a+d))) z)) (A3 (w64 (a+d))) (A5 b (A3 a) z)),e,d,a,())with|none=>none|some (f,_)=>some (.inl (f,a,e,(w64 (d-1)),()))
 |false=>some (.inr (.inl (b,())))
def QZ[Lk]{α β:Type}(z:α)(c:α×α×Unit->Option (β×Unit))(t:β->Bool):(List α×Int×Int×Int×Int×Unit)->Option ((List α×Int×Int×Int×Int×Unit)⊕(List α×Int×Int×Int×Unit)⊕Unit):=fun(e,a,f,b,d,_)=>
 match(ile 0 d)with
 |true=>match(Sl z c t) (e,d,b,a,())with|none=>none|some (g,_)=>some (.inl (g,a,f,b,(w64 (d-1)),()))
 |false=>some (.inr (.inl (e,a,f,b,())))
def LN[Lk]{α β:Type}(z:α)(c:α×α×Unit->Option (β×Unit))(t:β->Bool):(List α×Int×Int×Unit)->Option ((List α×Unit)):=fun(d,a,b,_)=>
 match quo? .i64 (w64 ((w64 (b-a))-1)) 2 with|none=>none|some e=>match A6 (QZ z c t) many (d,a,0,(w64 (b-a)),e,())with|none=>none|some r=>match r with
 |.inl (f,g,h,i,_)=>match A6 (QY z c t) many (f,g,h,(w64 (i-1)),())with|none=>none|some r=>match r with
  |.inl (j,_)=>some (j,())
  |.inr _=>none
 |.inr _=>none
def YR[Lk]{α β:Type}(z:α)(c:α×α×Unit->Option (β×Unit))(t:β->Bool)(v:(List α×Int×Int×Unit)):Option ((List α×Unit)):=Lk.f ((LN z c t) v)
theorem AHs{α β:Type}(z:α)(c:α×α×Unit->Option (β×Unit))(t:β->Bool)(v:(List α×Int×Int×Unit)):(YR z c t) v=(LN z c t) v:=A0 _
def Kc[Lk]{α β:Type}(z:α)(c:α×α×Unit->Option (β×Unit))(t:β->Bool):(List α×Int×Int×Int×Int×Int×Unit)->Option ((List α×Int×Int×Int×Int×Int×Unit)⊕(List α×Unit)⊕Unit):=fun(a,b,g,i,d,e,_)=>
 match quo? .i64 g 4 with|none=>none|some j=>match(ile e (w64 ((w64 (b+(w64 (j*2))))+1)))with
 |true=>match xorNext (i,())with|none=>none|some (h,f,_)=>match(ile g (w64 (IntKind.wrap .u64 ((BitVec.ofInt (IntKind.bits .u64) f &&& BitVec.ofInt (IntKind.bits .u64) (IntKind.wrap .u64 (d-1))).toNat))))with
  |true=>match idx a (w64 (b+(w64 ((w64 (IntKind.wrap .u64 ((BitVec.ofInt (IntKind.bits .u64) f &&& BitVec.ofInt (IntKind.bits .u64) (IntKind.wrap .u64 (d-1))).toNat)))-g))))with|none=>none|some k=>match idx a e with|none=>none|some l=>match idx a e with|none=>none|some m=>match idx (Ba a (A3 e) (A5 a (A3 (w64 (b+(w64 ((w64 (IntKind.wrap .u64 ((BitVec.ofInt (IntKind.bits .u64) f &&& BitVec.ofInt (IntKind.bits .u64) (IntKind.wrap .u64 (d-1))).toNat)))-g))))) z)) (w64 (b+(w64 ((w64 (IntKind.wrap .u64 ((BitVec.ofInt (IntKind.bits .u64) f &&& BitVec.ofInt (IntKind.bits .u64) (IntKind.wrap .u64 (d-1))).toNat)))-g))))with|none=>none|some n=>some (.inl ((Ba (Ba a (A3 e) (A5 a (A3 (w64 (b+(w64 ((w64 (IntKind.wrap .u64 ((BitVec.ofInt (IntKind.bits .u64) f &&& BitVec.ofInt (IntKind.bits .u64) (IntKind.wrap .u64 (d-1))).toNat)))-g))))) z)) (A3 (w64 (b+(w64 ((w64 (IntKind.wrap .u64 ((BitVec.ofInt (IntKind.bits .u64) f &&& BitVec.ofInt (IntKind.bits .u64) (IntKind.wrap .u64 (d-1))).toNat)))-g))))) (A5 a (A3 e) z)),b,g,h,d,(w64 (e+1)),()))
  |false=>match idx a (w64 (b+(w64 (IntKind.wrap .u64 ((BitVec.ofInt (IntKind.bits .u64) f &&& BitVec.ofInt (IntKind.bits .u64) (IntKind.wrap .u64 (d-1))).toNat)))))with|none=>none|some o=>match idx a e with|none=>none|some p=>match idx a e with|none=>none|some q=>match idx (Ba a (A3 e) (A5 a (A3 (w64 (b+(w64 (IntKind.wrap .u64 ((BitVec.ofInt (IntKind.bits .u64) f &&& BitVec.ofInt (IntKind.bits .u64) (IntKind.wrap .u64 (d-1))).toNat)))))) z)) (w64 (b+(w64 (IntKind.wrap .u64 ((BitVec.ofInt (IntKind.bits .u64) f &&& BitVec.ofInt (IntKind.bits .u64) (IntKind.wrap .u64 (d-1))).toNat)))))with|none=>none|some r=>some (.inl ((Ba (Ba a (A3 e) (A5 a (A3 (w64 (b+(w64 (IntKind.wrap .u64 ((BitVec.ofInt (IntKind.bits .u64) f &&& BitVec.ofInt (IntKind.bits .u64) (IntKind.wrap .u64 (d-1))).toNat)))))) z)) (A3 (w64 (b+(w64 (IntKind.wrap .u64 ((BitVec.ofInt (IntKind.bits .u64) f &&& BitVec.ofInt (IntKind.bits .u64) (IntKind.wrap .u64 (d-1))).toNat)))))) (A5 a (A3 e) z)),b,g,h,d,(w64 (e+1)),()))
 |false=>some (.inr (.inl (a,())))
def I2[Lk]{α β:Type}(z:α)(c:α×α×Unit->Option (β×Unit))(t:β->Bool):(List α×Int×Int×Unit)->Option ((List α×Unit)):=fun(d,a,b,_)=>
 match(ile 8 (w64 (b-a)))with
 |true=>match UW ((w64 (b-a)),())with|none=>none|some (e,_)=>match quo? .i64 (w64 (b-a)) 4 with|none=>none|some f=>match A6 (Kc z c t) many (d,a,(w64 (b-a)),(IntKind.wrap .u64 (w64 (b-a))),e,(w64 ((w64 (a+(w64 (f*2))))-1)),())with|none=>none|some r=>match r with
  |.inl (g,_)=>some (g,())
  |.inr _=>none
 |false=>some (d,())
def O_[Lk]{α β:Type}(z:α)(c:α×α×Unit->Option (β×Unit))(t:β->Bool)(v:(List α×Int×Int×Unit)):Option ((List α×Unit)):=Lk.f ((I2 z c t) v)
theorem ADP{α β:Type}(z:α)(c:α×α×Unit->Option (β×Unit))(t:β->Bool)(v:(List α×Int×Int×Unit)):(O_ z c t) v=(I2 z c t) v:=A0 _
def GJ[Lk]{α β:Type}(z:α)(c:α×α×Unit->Option (β×Unit))(t:β->Bool):(List α×Int×Int×Int×Unit)->Option ((List α×Int×Int×Int×Unit)):=fun(a,b,d,e,_)=>
 match idx a d with|none=>none|some g=>match idx a b with|none=>none|some h=>match c ((A5 a (A3 d) z),(A5 a (A3 b) z),())with|none=>none|some (f,_)=>match(t f)with
 |true=>some (a,(w64 (e+1)),d,b,())
 |false=>some (a,e,b,d,())
def Hb[Lk]{α β:Type}(z:α)(c:α×α×Unit->Option (β×Unit))(t:β->Bool)(v:(List α×Int×Int×Int×Unit)):Option ((List α×Int×Int×Int×Unit)):=Lk.f ((GJ z c t) v)
theorem sH{α β:Type}(z:α)(c:α×α×Unit->Option (β×Unit))(t:β->Bool)(v:(List α×Int×Int×Int×Unit)):(Hb z c t) v=(GJ z c t) v:=A0 _
def GM[Lk]{α β:Type}(z:α)(c:α×α×Unit->Option (β×Unit))(t:β->Bool):(List α×Int×Int×Int×Int×Unit)->Option ((List α×Int×Int×Unit)):=fun(a,b,d,e,f,_)=>
 match(Hb z c t) (a,b,d,f,())with|none=>none|some (g,h,i,j,_)=>match(Hb z c t) (g,j,e,h,())with|none=>none|some (k,l,m,q,_)=>match(Hb z c t) (k,i,m,l,())with|none=>none|some (n,o,r,p,_)=>some (n,o,p,())
def He[Lk]{α β:Type}(z:α)(c:α×α×Unit->Option (β×Unit))(t:β->Bool)(v:(List α×Int×Int×Int×Int×Unit)):Option ((List α×Int×Int×Unit)):=Lk.f ((GM z c t) v)
theorem sU{α β:Type}(z:α)(c:α×α×Unit->Option (β×Unit))(t:β->Bool)(v:(List α×Int×Int×Int×Int×Unit)):(He z c t) v=(GM z c t) v:=A0 _
def GN[Lk]{α β:Type}(z:α)(c:α×α×Unit->Option (β×Unit))(t:β->Bool):(List α×Int×Int×Unit)->Option ((List α×Int×Int×Unit)):=fun(b,a,d,_)=>
 match(He z c t) (b,(w64 (a-1)),a,(w64 (a+1)),d,())with|none=>none|some (e,f,g,_)=>some (e,f,g,())
def Hf[Lk]{α β:Type}(z:α)(c:α×α×Unit->Option (β×Unit))(t:β->Bool)(v:(List α×Int×Int×Unit)):Option ((List α×Int×Int×Unit)):=Lk.f ((GN z c t) v)
theorem sZ{α β:Type}(z:α)(c:α×α×Unit->Option (β×Unit))(t:β->Bool)(v:(List α×Int×Int×Unit)):(Hf z c t) v=(GN z c t) v:=A0 _
def IY[Lk]{α β:Type}(z:α)(c:α×α×Unit->Option (β×Unit))(t:β->Bool):(List α×Int×Int×Unit)->Option ((List α×Int×Int×Unit)):=fun(b,a,d,_)=>
 match quo? .i64 (w64 (d-a)) 4 with|none=>none|some j=>match quo? .i64 (w64 (d-a)) 4 with|none=>none|some e=>match quo? .i64 (w64 (d-a)) 4 with|none=>none|some k=>match(ile 8 (w64 (d-a)))with
 |true=>match(ile 50 (w64 (d-a)))with
  |true=>match(Hf z c t) (b,(w64 (a+(w64 (j*1)))),0,())with|none=>none|some (n,o,p,_)=>match(Hf z c t) (n,(w64 (a+(w64 (e*2)))),o,())with|none=>none|some (q,r,s,_)=>match(Hf z c t) (q,(w64 (a+(w64 (k*3)))),r,())with|none=>none|some (u,v,w,_)=>match(He z c t) (u,p,s,w,v,())with|none=>none|some (f,l,g,_)=>match(ieq l 0)with
   |true=>some (f,g,1,())
   |false=>match(ieq l 12)with
   |true=>some (f,g,2,())
   |false=>some (f,g,0,())
  |false=>match(He z c t) (b,(w64 (a+(w64 (j*1)))),(w64 (a+(w64 (e*2)))),(w64 (a+(w64 (k*3)))),0,())with|none=>none|some (h,m,i,_)=>match(ieq m 0)with
  |true=>some (h,i,1,())
  |false=>match(ieq m 12)with
  |true=>some (h,i,2,())
  |false=>some (h,i,0,())
 |false=>match(ieq 0 0)with
 |true=>some (b,(w64 (a+(w64 (e*2)))),1,())
 |false=>match(ieq 0 12)with
 |true=>some (b,(w64 (a+(w64 (e*2)))),2,())
 |false=>some (b,(w64 (a+(w64 (e*2)))),0,())
def OQ[Lk]{α β:Type}(z:α)(c:α×α×Unit->Option (β×Unit))(t:β->Bool)(v:(List α×Int×Int×Unit)):Option ((List α×Int×Int×Unit)):=Lk.f ((IY z c t) v)
theorem z7{α β:Type}(z:α)(c:α×α×Unit->Option (β×Unit))(t:β->Bool)(v:(List α×Int×Int×Unit)):(OQ z c t) v=(IY z c t) v:=A0 _
def ee[Lk]{α β:Type}(z:α)(c:α×α×Unit->Option (β×Unit))(t:β->Bool):(List α×Int×Int×Unit)->Option ((List α×Int×Int×Unit)⊕(List α×Unit)⊕Unit):=fun(a,b,d,_)=>
 match(ilt b d)with
 |true=>match idx a d with|none=>none|some e=>match idx a b with|none=>none|some f=>match idx a b with|none=>none|some g=>match idx (Ba a (A3 b) (A5 a (A3 d) z)) d with|none=>none|some h=>some (.inl ((Ba (Ba a (A3 b) (A5 a (A3 d) z)) (A3 d) (A5 a (A3 b) z)),(w64 (b+1)),(w64 (d-1)),()))
 |false=>some (.inr (.inl (a,())))
def OO[Lk]{α β:Type}(z:α)(c:α×α×Unit->Option (β×Unit))(t:β->Bool):(List α×Int×Int×Unit)->Option ((List α×Unit)):=fun(a,b,d,_)=>
 match A6 (ee z c t) many (a,b,(w64 (d-1)),())with|none=>none|some r=>match r with
 |.inl (e,_)=>some (e,())
 |.inr _=>none
def qd[Lk]{α β:Type}(z:α)(c:α×α×Unit->Option (β×Unit))(t:β->Bool)(v:(List α×Int×Int×Unit)):Option ((List α×Unit)):=Lk.f ((OO z c t) v)
theorem AK6{α β:Type}(z:α)(c:α×α×Unit->Option (β×Unit))(t:β->Bool)(v:(List α×Int×Int×Unit)):(qd z c t) v=(OO z c t) v:=A0 _
def JM[Lk]{α β:Type}(z:α)(c:α×α×Unit->Option (β×Unit))(t:β->Bool):(List α×Int×Int×Int×Int×Int×Unit)->Option ((List α×Int×Int×Int×Int×Int×Unit)⊕(List α×Int×Int×Int×Int×Unit)⊕Unit):=fun(b,e,d,f,g,a,_)=>
 match(ilt a d)with
 |true=>match idx b a with|none=>none|some i=>match idx b (w64 (a-1))with|none=>none|some j=>match c ((A5 b (A3 a) z),(A5 b (A3 (w64 (a-1))) z),())with|none=>none|some (h,_)=>match(!(t h))with
  |true=>some (.inr (.inl (b,e,d,f,g,())))
  |false=>match idx b (w64 (a-1))with|none=>none|some k=>match idx b a with|none=>none|some l=>match idx b a with|none=>none|some m=>match idx (Ba b (A3 a) (A5 b (A3 (w64 (a-1))) z)) (w64 (a-1))with|none=>none|some n=>some (.inl ((Ba (Ba b (A3 a) (A5 b (A3 (w64 (a-1))) z)) (A3 (w64 (a-1))) (A5 b (A3 a) z)),e,d,f,g,(w64 (a+1)),()))
 |false=>some (.inr (.inl (b,e,d,f,g,())))
def JN[Lk]{α β:Type}(z:α)(c:α×α×Unit->Option (β×Unit))(t:β->Bool):(List α×Int×Int×Int×Int×Int×Unit)->Option ((List α×Int×Int×Int×Int×Int×Unit)⊕(List α×Int×Int×Int×Int×Unit)⊕Unit):=fun(b,d,e,f,g,a,_)=>
 match(ile 1 a)with
 |true=>match idx b a with|none=>none|some i=>match idx b (w64 (a-1))with|none=>none|some j=>match c ((A5 b (A3 a) z),(A5 b (A3 (w64 (a-1))) z),())with|none=>none|some (h,_)=>match(!(t h))with
  |true=>some (.inr (.inl (b,d,e,f,g,())))
  |false=>match idx b (w64 (a-1))with|none=>none|some k=>match idx b a with|none=>none|some l=>match idx b a with|none=>none|some m=>match idx (Ba b (A3 a) (A5 b (A3 (w64 (a-1))) z)) (w64 (a-1))with|none=>none|some n=>some (.inl ((Ba (Ba b (A3 a) (A5 b (A3 (w64 (a-1))) z)) (A3 (w64 (a-1))) (A5 b (A3 a) z)),d,e,f,g,(w64 (a-1)),()))
 |false=>some (.inr (.inl (b,d,e,f,g,())))
def MG[Lk]{α β:Type}(z:α)(c:α×α×Unit->Option (β×Unit))(t:β->Bool):(List α×Int×Int×Int×Int×Unit)->Option ((List α×Int×Int×Int×Int×Unit)⊕(List α×Int×Int×Int×Int×Unit)⊕Unit):=fun(b,e,d,a,f,_)=>
 match(ilt a d)with
 |true=>match idx b a with|none=>none|some h=>match idx b (w64 (a-1))with|none=>none|some i=>match c ((A5 b (A3 a) z),(A5 b (A3 (w64 (a-1))) z),())with|none=>none|some (g,_)=>match(!(t g))with
  |true=>some (.inl (b,e,d,(w64 (a+1)),f,()))
  |false=>some (.inr (.inl (b,e,d,a,f,())))
 |false=>some (.inr (.inl (b,e,d,a,f,())))
def EJ[Lk]{α β:Type}(z:α)(c:α×α×Unit->Option (β×Unit))(t:β->Bool):(List α×Int×Int×Int×Int×Unit)->Option ((List α×Int×Int×Int×Int×Unit)⊕(List α×Bool×Unit)⊕(List α×Unit)⊕Unit):=fun(i,n,o,p,j,_)=>
 match(ilt j 5)with
 |true=>match A6 (MG z c t) many (i,n,o,p,j,())with|none=>none|some r=>match r with
  |.inl (b,e,d,a,g,_)=>match(ieq a d)with
   |true=>some (.inr (.inl (b,true,())))
   |false=>match(ilt (w64 (d-e)) 50)with
   |true=>some (.inr (.inl (b,false,())))
   |false=>match idx b (w64 (a-1))with|none=>none|some D=>match idx b a with|none=>none|some E=>match idx b a with|none=>none|some F=>match idx (Ba b (A3 a) (A5 b (A3 (w64 (a-1))) z)) (w64 (a-1))with|none=>none|some G=>match(ile 2 (w64 (a-e)))with
   |true=>match A6 (JN z c t) many ((Ba (Ba b (A3 a) (A5 b (A3 (w64 (a-1))) z)) (A3 (w64 (a-1))) (A5 b (A3 a) z)),e,d,a,g,(w64 (a-1)),())with|none=>none|some r=>match r with
    |.inl (k,l,h,f,m,_)=>match(ile 2 (w64 (h-f)))with
     |true=>match A6 (JM z c t) many (k,l,h,f,m,(w64 (f+1)),())with|none=>none|some r=>match r with
      |.inl (q,s,u,v,w,_)=>some (.inl (q,s,u,v,(w64 (w+1)),()))
      |.inr _=>none
     |false=>some (.inl (k,l,h,f,(w64 (m+1)),()))
    |.inr _=>none
   |false=>match(ile 2 (w64 (d-a)))with
   |true=>match A6 (JM z c t) many ((Ba (Ba b (A3 a) (A5 b (A3 (w64 (a-1))) z)) (A3 (w64 (a-1))) (A5 b (A3 a) z)),e,d,a,g,(w64 (a+1)),())with|none=>none|some r=>match r with
    |.inl (x,y,A,B,C,_)=>some (.inl (x,y,A,B,(w64 (C+1)),()))
    |.inr _=>none
   |false=>some (.inl ((Ba (Ba b (A3 a) (A5 b (A3 (w64 (a-1))) z)) (A3 (w64 (a-1))) (A5 b (A3 a) z)),e,d,a,(w64 (g+1)),()))
  |.inr _=>none
 |false=>some (.inr (.inr (.inl (i,()))))
def E6[Lk]{α β:Type}(z:α)(c:α×α×Unit->Option (β×Unit))(t:β->Bool):(List α×Int×Int×Unit)->Option ((List α×Bool×Unit)):=fun(b,a,d,_)=>
 match A6 (EJ z c t) many (b,a,d,(w64 (a+1)),0,())with|none=>none|some r=>match r with
 |.inl (e,f,_)=>some (e,f,())
 |.inr r=>match r with
 |.inl (g,_)=>some (g,false,())
 |.inr _=>none
def Ib[Lk]{α β:Type}(z:α)(c:α×α×Unit->Option (β×Unit))(t:β->Bool)(v:(List α×Int×Int×Unit)):Option ((List α×Bool×Unit)):=Lk.f ((E6 z c t) v)
theorem lU{α β:Type}(z:α)(c:α×α×Unit->Option (β×Unit))(t:β->Bool)(v:(List α×Int×Int×Unit)):(Ib z c t) v=(E6 z c t) v:=A0 _
def OV[Lk]{α β:Type}(z:α)(c:α×α×Unit->Option (β×Unit))(t:β->Bool):(List α×Int×Int×Int×Unit)->Option ((List α×Int×Int×Int×Unit)⊕(List α×Int×Int×Int×Unit)⊕Unit):=fun(a,d,e,b,_)=>
 match(ile e b)with
 |true=>match idx a d with|none=>none|some g=>match idx a b with|none=>none|some h=>match c ((A5 a (A3 d) z),(A5 a (A3 b) z),())with|none=>none|some (f,_)=>match(t f)with
  |true=>some (.inl (a,d,e,(w64 (b-1)),()))
  |false=>some (.inr (.inl (a,d,e,b,())))
 |false=>some (.inr (.inl (a,d,e,b,())))
def OW[Lk]{α β:Type}(z:α)(c:α×α×Unit->Option (β×Unit))(t:β->Bool):(List α×Int×Int×Int×Unit)->Option ((List α×Int×Int×Int×Unit)⊕(List α×Int×Int×Int×Unit)⊕Unit):=fun(a,d,b,e,_)=>
 match(ile b e)with
 |true=>match idx a d with|none=>none|some g=>match idx a b with|none=>none|some h=>match c ((A5 a (A3 d) z),(A5 a (A3 b) z),())with|none=>none|some (f,_)=>match(!(t f))with
  |true=>some (.inl (a,d,(w64 (b+1)),e,()))
  |false=>some (.inr (.inl (a,d,b,e,())))
 |false=>some (.inr (.inl (a,d,b,e,())))
def OX[Lk]{α β:Type}(z:α)(c:α×α×Unit->Option (β×Unit))(t:β->Bool):(List α×Int×Int×Int×Unit)->Option ((List α×Int×Int×Int×Unit)⊕(List α×Int×Unit)⊕Unit):=fun(e,f,g,h,_)=>
 match A6 (OW z c t) many (e,f,g,h,())with|none=>none|some r=>match r with
 |.inl (i,j,k,l,_)=>match A6 (OV z c t) many (i,j,k,l,())with|none=>none|some r=>match r with
  |.inl (a,m,b,d,_)=>match(ilt d b)with
   |true=>some (.inr (.inl (a,b,())))
   |false=>match idx a d with|none=>none|some n=>match idx a b with|none=>none|some o=>match idx a b with|none=>none|some p=>match idx (Ba a (A3 b) (A5 a (A3 d) z)) d with|none=>none|some q=>some (.inl ((Ba (Ba a (A3 b) (A5 a (A3 d) z)) (A3 d) (A5 a (A3 b) z)),m,(w64 (b+1)),(w64 (d-1)),()))
  |.inr _=>none
 |.inr _=>none
def GH[Lk]{α β:Type}(z:α)(c:α×α×Unit->Option (β×Unit))(t:β->Bool):(List α×Int×Int×Int×Unit)->Option ((List α×Int×Unit)):=fun(a,b,e,d,_)=>
 match idx a d with|none=>none|some h=>match idx a b with|none=>none|some i=>match idx a b with|none=>none|some j=>match idx (Ba a (A3 b) (A5 a (A3 d) z)) d with|none=>none|some k=>match A6 (OX z c t) many ((Ba (Ba a (A3 b) (A5 a (A3 d) z)) (A3 d) (A5 a (A3 b) z)),b,(w64 (b+1)),(w64 (e-1)),())with|none=>none|some r=>match r with
 |.inl (f,g,_)=>some (f,g,())
 |.inr _=>none
def K3[Lk]{α β:Type}(z:α)(c:α×α×Unit->Option (β×Unit))(t:β->Bool)(v:(List α×Int×Int×Int×Unit)):Option ((List α×Int×Unit)):=Lk.f ((GH z c t) v)
theorem r7{α β:Type}(z:α)(c:α×α×Unit->Option (β×Unit))(t:β->Bool)(v:(List α×Int×Int×Int×Unit)):(K3 z c t) v=(GH z c t) v:=A0 _
def Xu[Lk]{α β:Type}(z:α)(c:α×α×Unit->Option (β×Unit))(t:β->Bool):(List α×Int×Int×Int×Unit)->Option ((List α×Int×Int×Int×Unit)⊕(List α×Int×Int×Int×Unit)⊕Unit):=fun(a,d,e,b,_)=>
 match(ile e b)with
 |true=>match idx a b with|none=>none|some g=>match idx a d with|none=>none|some h=>match c ((A5 a (A3 b) z),(A5 a (A3 d) z),())with|none=>none|some (f,_)=>match(!(t f))with
  |true=>some (.inl (a,d,e,(w64 (b-1)),()))
  |false=>some (.inr (.inl (a,d,e,b,())))
 |false=>some (.inr (.inl (a,d,e,b,())))
def Xv[Lk]{α β:Type}(z:α)(c:α×α×Unit->Option (β×Unit))(t:β->Bool):(List α×Int×Int×Int×Unit)->Option ((List α×Int×Int×Int×Unit)⊕(List α×Int×Int×Int×Unit)⊕Unit):=fun(a,d,b,e,_)=>
 match(ile b e)with
 |true=>match idx a b with|none=>none|some g=>match idx a d with|none=>none|some h=>match c ((A5 a (A3 b) z),(A5 a (A3 d) z),())with|none=>none|some (f,_)=>match(t f)with
  |true=>some (.inl (a,d,(w64 (b+1)),e,()))
  |false=>some (.inr (.inl (a,d,b,e,())))
 |false=>some (.inr (.inl (a,d,b,e,())))
def Xw[Lk]{α β:Type}(z:α)(c:α×α×Unit->Option (β×Unit))(t:β->Bool):(List α×Int×Int×Int×Unit)->Option ((List α×Int×Int×Int×Unit)⊕(List α×Int×Int×Unit)⊕Unit):=fun(f,g,h,i,_)=>
 match A6 (Xv z c t) many (f,g,h,i,())with|none=>none|some r=>match r with
 |.inl (j,k,l,m,_)=>match A6 (Xu z c t) many (j,k,l,m,())with|none=>none|some r=>match r with
  |.inl (a,e,d,b,_)=>match(ilt b d)with
   |true=>some (.inr (.inl (a,e,b,())))
   |false=>match idx a b with|none=>none|some n=>match idx a d with|none=>none|some o=>match idx a d with|none=>none|some p=>match idx (Ba a (A3 d) (A5 a (A3 b) z)) b with|none=>none|some q=>some (.inl ((Ba (Ba a (A3 d) (A5 a (A3 b) z)) (A3 b) (A5 a (A3 d) z)),e,(w64 (d+1)),(w64 (b-1)),()))
  |.inr _=>none
 |.inr _=>none
def Xx[Lk]{α β:Type}(z:α)(c:α×α×Unit->Option (β×Unit))(t:β->Bool):(List α×Int×Int×Int×Unit)->Option ((List α×Int×Int×Int×Unit)⊕(List α×Int×Int×Int×Unit)⊕Unit):=fun(a,d,e,b,_)=>
 match(ile e b)with
 |true=>match idx a b with|none=>none|some g=>match idx a d with|none=>none|some h=>match c ((A5 a (A3 b) z),(A5 a (A3 d) z),())with|none=>none|some (f,_)=>match(!(t f))with
  |true=>some (.inl (a,d,e,(w64 (b-1)),()))
  |false=>some (.inr (.inl (a,d,e,b,())))
 |false=>some (.inr (.inl (a,d,e,b,())))
def Xy[Lk]{α β:Type}(z:α)(c:α×α×Unit->Option (β×Unit))(t:β->Bool):(List α×Int×Int×Int×Unit)->Option ((List α×Int×Int×Int×Unit)⊕(List α×Int×Int×Int×Unit)⊕Unit):=fun(a,d,b,e,_)=>
 match(ile b e)with
 |true=>match idx a b with|none=>none|some g=>match idx a d with|none=>none|some h=>match c ((A5 a (A3 b) z),(A5 a (A3 d) z),())with|none=>none|some (f,_)=>match(t f)with
  |true=>some (.inl (a,d,(w64 (b+1)),e,()))
  |false=>some (.inr (.inl (a,d,b,e,())))
 |false=>some (.inr (.inl (a,d,b,e,())))
def K2[Lk]{α β:Type}(z:α)(c:α×α×Unit->Option (β×Unit))(t:β->Bool):(List α×Int×Int×Int×Unit)->Option ((List α×Int×Bool×Unit)):=fun(d,f,l,j,_)=>
 match idx d j with|none=>none|some q=>match idx d f with|none=>none|some s=>match idx d f with|none=>none|some u=>match idx (Ba d (A3 f) (A5 d (A3 j) z)) j with|none=>none|some v=>match A6 (Xy z c t) many ((Ba (Ba d (A3 f) (A5 d (A3 j) z)) (A3 j) (A5 d (A3 f) z)),f,(w64 (f+1)),(w64 (l-1)),())with|none=>none|some r=>match r with
 |.inl (m,n,o,p,_)=>match A6 (Xx z c t) many (m,n,o,p,())with|none=>none|some r=>match r with
  |.inl (a,h,g,b,_)=>match(ilt b g)with
   |true=>match idx a h with|none=>none|some w=>match idx a b with|none=>none|some x=>match idx a b with|none=>none|some y=>match idx (Ba a (A3 b) (A5 a (A3 h) z)) h with|none=>none|some A=>some ((Ba (Ba a (A3 b) (A5 a (A3 h) z)) (A3 h) (A5 a (A3 b) z)),b,true,())
   |false=>match idx a b with|none=>none|some B=>match idx a g with|none=>none|some C=>match idx a g with|none=>none|some D=>match idx (Ba a (A3 g) (A5 a (A3 b) z)) b with|none=>none|some E=>match A6 (Xw z c t) many ((Ba (Ba a (A3 g) (A5 a (A3 b) z)) (A3 b) (A5 a (A3 g) z)),h,(w64 (g+1)),(w64 (b-1)),())with|none=>none|some r=>match r with
   |.inl (e,k,i,_)=>match idx e k with|none=>none|some F=>match idx e i with|none=>none|some G=>match idx e i with|none=>none|some H=>match idx (Ba e (A3 i) (A5 e (A3 k) z)) k with|none=>none|some I=>some ((Ba (Ba e (A3 i) (A5 e (A3 k) z)) (A3 k) (A5 e (A3 i) z)),i,false,())
   |.inr _=>none
  |.inr _=>none
 |.inr _=>none
def Ps[Lk]{α β:Type}(z:α)(c:α×α×Unit->Option (β×Unit))(t:β->Bool)(v:(List α×Int×Int×Int×Unit)):Option ((List α×Int×Bool×Unit)):=Lk.f ((K2 z c t) v)
theorem AGp{α β:Type}(z:α)(c:α×α×Unit->Option (β×Unit))(t:β->Bool)(v:(List α×Int×Int×Int×Unit)):(Ps z c t) v=(K2 z c t) v:=A0 _
def Rh[Lk]{α β:Type}(z:α)(c:α×α×Unit->Option (β×Unit))(t:β->Bool)(self:(List α×Int×Int×Int×Unit)->Option ((List α×Unit)))(f:List α)(a b p l:Int)(n o:Bool):Option ((List α×Int×Int×Int×Bool×Bool×Unit)⊕(List α×Unit)⊕Unit):=
 match(ilt 0 a)with
 |true=>match idx f (w64 (a-1))with|none=>none|some y=>match idx f p with|none=>none|some A=>match c ((A5 f (A3 (w64 (a-1))) z),(A5 f (A3 p) z),())with|none=>none|some (q,_)=>match(!(t q))with
  |true=>match(K3 z c t) (f,a,b,p,())with|none=>none|some (r,s,_)=>some (.inl (r,s,b,l,n,o,()))
  |false=>match(Ps z c t) (f,a,b,p,())with|none=>none|some (g,d,h,_)=>match quo? .i64 (w64 (b-a)) 8 with|none=>none|some i=>match(ilt (w64 (d-a)) (w64 (b-d)))with
  |true=>match self (g,a,d,l,())with|none=>none|some (u,_)=>some (.inl (u,(w64 (d+1)),b,l,(ile i (w64 (d-a))),h,()))
  |false=>match self (g,(w64 (d+1)),b,l,())with|none=>none|some (v,_)=>some (.inl (v,a,d,l,(ile i (w64 (b-d))),h,()))
 |false=>match(Ps z c t) (f,a,b,p,())with|none=>none|some (j,e,k,_)=>match quo? .i64 (w64 (b-a)) 8 with|none=>none|some m=>match(ilt (w64 (e-a)) (w64 (b-e)))with
 |true=>match self (j,a,e,l,())with|none=>none|some (w,_)=>some (.inl (w,(w64 (e+1)),b,l,(ile m (w64 (e-a))),k,()))
 |false=>match self (j,(w64 (e+1)),b,l,())with|none=>none|some (x,_)=>some (.inl (x,a,e,l,(ile m (w64 (b-e))),k,()))
def fI[Lk]{α β:Type}(z:α)(c:α×α×Unit->Option (β×Unit))(t:β->Bool)(self:(List α×Int×Int×Int×Unit)->Option ((List α×Unit)))(f:List α)(a b p h l:Int)(d e:Bool):Option ((List α×Int×Int×Int×Bool×Bool×Unit)⊕(List α×Unit)⊕Unit):=
 match d with
 |true=>match e with
  |true=>match(ieq h 1)with
   |true=>match(Ib z c t) (f,a,b,())with|none=>none|some (g,i,_)=>match i with
    |true=>some (.inr (.inl (g,())))
    |false=>(Rh z c t) self g a b p l d e
   |false=>(Rh z c t) self f a b p l d e
  |false=>(Rh z c t) self f a b p l d e
 |false=>(Rh z c t) self f a b p l d e
def fH[Lk]{α β:Type}(z:α)(c:α×α×Unit->Option (β×Unit))(t:β->Bool)(self:(List α×Int×Int×Int×Unit)->Option ((List α×Unit)))(i:List α)(a b l:Int)(d e:Bool):Option ((List α×Int×Int×Int×Bool×Bool×Unit)⊕(List α×Unit)⊕Unit):=
 match(OQ z c t) (i,a,b,())with|none=>none|some (f,g,h,_)=>match(ieq h 2)with
 |true=>match(qd z c t) (f,a,b,())with|none=>none|some (j,_)=>(fI z c t) self j a b (w64 ((w64 (b-1))-(w64 (g-a)))) 1 l d e
 |false=>(fI z c t) self f a b g h l d e
def JL[Lk]{α β:Type}(z:α)(c:α×α×Unit->Option (β×Unit))(t:β->Bool)(self:(List α×Int×Int×Int×Unit)->Option ((List α×Unit))):(List α×Int×Int×Int×Bool×Bool×Unit)->Option ((List α×Int×Int×Int×Bool×Bool×Unit)⊕(List α×Unit)⊕Unit):=fun(d,a,b,e,f,g,_)=>
 match(ile (w64 (b-a)) 12)with
 |true=>match(s8 z c t) (d,a,b,())with|none=>none|some (h,_)=>some (.inr (.inl (h,())))
 |false=>match(ieq e 0)with
 |true=>match(YR z c t) (d,a,b,())with|none=>none|some (i,_)=>some (.inr (.inl (i,())))
 |false=>match(!f)with
 |true=>match(O_ z c t) (d,a,b,())with|none=>none|some (j,_)=>(fH z c t) self j a b (w64 (e-1)) f g
 |false=>(fH z c t) self d a b e f g
def OR[Lk]{α β:Type}(z:α)(c:α×α×Unit->Option (β×Unit))(t:β->Bool)(self:(List α×Int×Int×Int×Unit)->Option ((List α×Unit))):(List α×Int×Int×Int×Unit)->Option ((List α×Unit)):=fun(a,b,d,e,_)=>
 match A6 ((JL z c t) self) many (a,b,d,e,true,true,())with|none=>none|some r=>match r with
 |.inl (f,_)=>some (f,())
 |.inr _=>none
def Ia[Lk]{α β:Type}(z:α)(c:α×α×Unit->Option (β×Unit))(t:β->Bool):Nat->(List α×Int×Int×Int×Unit)->Option ((List α×Unit))
 |0,_=>none
 |n+1,v=>(OR z c t) ((Ia z c t) n) v
def rO[Lk]{α β:Type}(z:α)(c:α×α×Unit->Option (β×Unit))(t:β->Bool)(v:(List α×Int×Int×Int×Unit)):Option ((List α×Unit)):=Lk.f ((Ia z c t) 100 v)
theorem ALW{α β:Type}(z:α)(c:α×α×Unit->Option (β×Unit))(t:β->Bool)(v:(List α×Int×Int×Int×Unit)):(rO z c t) v=(Ia z c t) 100 v:=A0 _
def Kv[Lk]{α β:Type}(z:α)(c:α×α×Unit->Option (β×Unit))(t:β->Bool):(List α×Unit)->Option ((List α×Unit)):=fun(a,_)=>
 match bitsLen ((IntKind.wrap .u64 (A2 a)),())with|none=>none|some (b,_)=>match(rO z c t) (a,0,(A2 a),b,())with|none=>none|some (d,_)=>some (d,())
def bS[Lk]{α β:Type}(z:α)(c:α×α×Unit->Option (β×Unit))(t:β->Bool)(v:(List α×Unit)):Option ((List α×Unit)):=Lk.f ((Kv z c t) v)
theorem AEi{α β:Type}(z:α)(c:α×α×Unit->Option (β×Unit))(t:β->Bool)(v:(List α×Unit)):(bS z c t) v=(Kv z c t) v:=A0 _
abbrev Ag:Loc×Con:=(.tmp 3,.clo 321 [])
abbrev Ah:Loc×Con:=(.tmp 0,.own 36 U5)
abbrev Ry:A1:=[Ah,AH,AI,Ag]
abbrev Ai:Loc×Con:=(.obj 0,.own 36 U5)
abbrev Ik:A1:=[Ai]
abbrev Bw:List RS:=[]
abbrev Aj:Loc×Con:=(.tmp 0,.own' 0)
abbrev AMJ:A1:=[Ai,Aj,AH,AI,Ag,AR,Ad]
abbrev AMI:BB:=[(.exit 2,[Ai,Aj,AH,AI,Ag,AR])]
abbrev AMK:A1:=[Ai,Aj,AH,AI,Ag,AR]
abbrev ff:BB:=[(.exit 0,[Ai])]
def APd[Lk]:=On (([]:List (Int)):U6) Cr tLt
def AQ9[Lk]:=s8 (([]:List (Int)):U6) Cr tLt
theorem AML v:AQ9 v=APd v:=A0 _
abbrev Ak:Loc×Con:=(.tmp 4,.clo 321 [])
abbrev JF:A1:=[Ah,AH,AI,AT,Ak]
abbrev AEr:A1:=[Ai,Aj,AI,AT,Ak,Aa]
abbrev AEq:BB:=[(.exit 0,[Ai]),(.ret,[Ai])]
def AKl[Lk]:=Kx (([]:List (Int)):U6) Cr tLt
def ANr[Lk]:=Sl (([]:List (Int)):U6) Cr tLt
theorem AEs v:ANr v=AKl v:=A0 _
abbrev AHk:A1:=[Ai,Aj,Ag,AR,Ad,AP]
abbrev AHi:BB:=[(.exit 2,[Ai])]
abbrev AHl:A1:=[Ai,Aj,Ag,AR,Ad,Aa,Ab]
abbrev AHj:BB:=[(.exit 0,[Ai,Aj,Ag,AR,Ad,Aa])]
def AMa[Lk]:=LN (([]:List (Int)):U6) Cr tLt
def AN6[Lk]:=YR (([]:List (Int)):U6) Cr tLt
theorem AHm v:AN6 v=AMa v:=A0 _
abbrev Al:Loc×Con:=(.cell 1 0,.dat (.int .u64))
abbrev Am:Loc×Con:=(.tmp 10,.dat (.int .u64))
abbrev ADL:A1:=[Ai,Aj,AH,AR,(.tmp 9,.box 1),Al,Am,Ab]
def AJL[Lk]:=I2 (([]:List (Int)):U6) Cr tLt
def AJN[Lk]:=O_ (([]:List (Int)):U6) Cr tLt
theorem ADM v:AJN v=AJL v:=A0 _
abbrev An:Loc×Con:=(.tmp 3,.box 1)
abbrev AAe:A1:=[Ah,AH,AI,An,AL,Ak]
abbrev Ao:Loc×Con:=(.obj 1,.box 1)
abbrev AAd:A1:=[Ai,Ao,AL,AA,AH]
abbrev BL:List RS:=[.one,.one]
def AAf[Lk]:=GJ (([]:List (Int)):U6) Cr tLt
def wL[Lk]:=Hb (([]:List (Int)):U6) Cr tLt
theorem sF v:wL v=AAf v:=A0 _
abbrev Ap:Loc×Con:=(.tmp 4,.box 1)
abbrev AAy:A1:=[Ah,AH,AI,AT,Ap,AL,(.tmp 5,.clo 321 [])]
abbrev cD:A1:=[Ai,Ao,AL,AA]
def AAz[Lk]:=GM (([]:List (Int)):U6) Cr tLt
def wW[Lk]:=He (([]:List (Int)):U6) Cr tLt
theorem sS v:wW v=AAz v:=A0 _
abbrev Aq:Loc×Con:=(.tmp 2,.box 1)
abbrev ABA:A1:=[Ah,AH,Aq,AL,Ag]
def ABB[Lk]:=GN (([]:List (Int)):U6) Cr tLt
def wa[Lk]:=Hf (([]:List (Int)):U6) Cr tLt
theorem sX v:wa v=ABB v:=A0 _
abbrev AF6:A1:=[Ai,AA,AH]
def AF7[Lk]:=IY (([]:List (Int)):U6) Cr tLt
def AF9[Lk]:=OQ (([]:List (Int)):U6) Cr tLt
theorem z5 v:AF9 v=AF7 v:=A0 _
abbrev AK2:A1:=[Ai,Aj,AR,Ad]
def AOg[Lk]:=OO (([]:List (Int)):U6) Cr tLt
def AQp[Lk]:=qd (([]:List (Int)):U6) Cr tLt
theorem AK3 v:AQp v=AOg v:=A0 _
abbrev rV:A1:=[Ai,AE]
abbrev lI:A1:=[Ai,Aj,AH,AI,Ag,Ad,Aa,AP]
abbrev lE:BB:=[(.exit 6,[Ai,Aj,AH,AI,Ag,Ad,Aa])]
abbrev lJ:A1:=[Ai,Aj,AH,AI,Ag,Ad,Aa,Ab]
abbrev lF:BB:=[(.exit 4,[Ai,Aj,AH,AI,Ag,Ad,Aa])]
abbrev Sw:A1:=[Ai,Aj,AH,AI,Ag,Ad,Aa]
abbrev lG:BB:=[(.exit 2,[Ai,Aj,AH,AI,Ag,Ad,Aa])]
abbrev Ar:Loc×Con:=(.tmp 8,.dat .bool)
abbrev lH:BB:=[(.ret,[Ai,Ar]),(.exit 0,[Ai])]
def rW[Lk]:=E6 (([]:List (Int)):U6) Cr tLt
def lL[Lk]:=Ib (([]:List (Int)):U6) Cr tLt
theorem lK v:lL v=rW v:=A0 _
abbrev AAQ:A1:=[Ai,AA]
abbrev OT:A1:=[Ai,Aj,AH,Ak,Ab,AP]
abbrev rm:BB:=[(.exit 4,[Ai,Aj,AH,Ak,Ab,AP])]
abbrev rn:BB:=[(.exit 2,[Ai,Aj,AH,Ak,Ab,AP])]
abbrev rp:BB:=[(.exit 0,[Ai,Ab])]
def AAR[Lk]:=GH (([]:List (Int)):U6) Cr tLt
def wH[Lk]:=K3 (([]:List (Int)):U6) Cr tLt
theorem rq v:wH v=AAR v:=A0 _
abbrev As:Loc×Con:=(.tmp 1,.dat .bool)
abbrev ALd:A1:=[Ai,AA,As]
abbrev MF:A1:=[Ai,Aj,AH,Ak,AP,AO]
abbrev AGc:BB:=[(.exit 8,[Ai,Aj,AH,Ak,AP,AO])]
abbrev AGd:BB:=[(.exit 6,[Ai,Aj,AH,Ak,AP,AO])]
abbrev AGe:BB:=[(.exit 4,[Ai,Aj,AH,AO])]
abbrev AGf:BB:=[(.exit 2,[Ai,Aj,AH,Ak,AP,AO])]
abbrev AGg:BB:=[(.exit 0,[Ai,Aj,AH,Ak,AP,AO])]
def ALe[Lk]:=K2 (([]:List (Int)):U6) Cr tLt
def ANz[Lk]:=Ps (([]:List (Int)):U6) Cr tLt
theorem AGh v:ANz v=ALe v:=A0 _
abbrev At:Loc×Con:=(.tmp 10,.dat .bool)
abbrev Au:Loc×Con:=(.tmp 11,.dat .bool)
abbrev v9:A1:=[Ai,Aj,AH,AI,AT,Ak,At,Au]
abbrev v8:BB:=[(.ret,[Ai])]
def v7[Lk]:=JL (([]:List (Int)):U6) Cr tLt
def AO6[Lk]:=OR (([]:List (Int)):U6) Cr tLt
def Xr[Lk]:=Ia (([]:List (Int)):U6) Cr tLt
def ALR[Lk]:=rO (([]:List (Int)):U6) Cr tLt
theorem ALQ v:ALR v=Xr 100 v:=A0 _
abbrev AKX:A1:=[Ah,(.tmp 1,.clo 321 [])]
def AKY[Lk]:=Kv (([]:List (Int)):U6) Cr tLt
def va[Lk]:=bS (([]:List (Int)):U6) Cr tLt
theorem AEf v:va v=AKY v:=A0 _
abbrev Av:Loc×Con:=(.cell 0 1,.dat U8)
abbrev KQ:A1:=[AD,(.cap 1 0,.box 2),AK,Av,(.tmp 1,.clo 172 [(0,0)])]
abbrev Aw:Loc×Con:=(.obj 0,.box 2)
abbrev R4:A1:=[Aw,AK,Av,AA]
abbrev QN:A1:=[Aw,AK,Av,AD,(.tmp 1,.clo 172 [(0,0)]),AQ,AR]
abbrev QM:BB:=[(.ret,[Aw,AK,Av,AS]),(.exit 0,[Aw,AK,Av])]
def DQ[Lk]:(Int×List U6×List Int×Int×Int×Unit)->Option ((Int×List U6×List Int×Int×Int×Unit)⊕(Int×List U6×Int×Unit)⊕(Int×List U6×Unit)⊕Unit):=fun(a,c,d,e,b,_)=>
 match(ilt b e)with
 |true=>match idx d b with|none=>none|some f=>match(ilt f 0)with
  |true=>some (.inr (.inl (a,c,b,())))
  |false=>match(ile a f)with
  |true=>some (.inr (.inl (a,c,b,())))
  |false=>some (.inl (a,c,d,e,(w64 (b+1)),()))
 |false=>some (.inr (.inr (.inl (a,c,()))))
def GR[Lk]:Vm->Option ((Int×List U6×Int×Unit)):=fun(a,b,c,_)=>
 match A6 DQ many (b,c,a,(A2 a),0,())with|none=>none|some r=>match r with
 |.inl (d,e,f,_)=>some (d,e,f,())
 |.inr r=>match r with
 |.inl (g,h,_)=>some (g,h,(-1:Int),())
 |.inr _=>none
def Ip[Lk]:=lkk GR
theorem JW v:Ip v=GR v:=A0 _
abbrev Ax:Loc×Con:=(.tmp 0,.dat V0)
abbrev APq:A1:=[Ax]
abbrev Ay:Loc×Con:=(.tmp 3,.own 3 U0)
abbrev AM8:A1:=[Ay,(.tmp 6,.dat V0),AQ,AR]
abbrev xG:BB:=[(.exit 0,[Ay])]
def Qk[Lk]:(List Int×List U4×Int×Int×Unit)->Option ((List Int×List U4×Int×Int×Unit)⊕Ue⊕Unit):=fun(b,d,e,c,_)=>
 match(ilt c e)with
 |true=>match idx d c with|none=>none|some a=>match(fits ((A2 b)+(A2 ([a.1,a.2.1]:List (Int)))))with
  |true=>some (.inl ((Bk b ([a.1,a.2.1]:List (Int))),d,e,(w64 (c+1)),()))
  |false=>none
 |false=>some (.inr (.inl (b,())))
def tQ[Lk]:V7->Option (Ue):=fun(a,_)=>
 match A6 Qk many (([]:List (Int)),a,(A2 a),0,())with|none=>none|some r=>match r with
 |.inl (b,_)=>some (b,())
 |.inr _=>none
def ends[Lk]:=lkk tQ
theorem xH v:ends v=tQ v:=A0 _
abbrev APP:A1:=[AT,(.tmp 6,.dat U5),AQ,AR]
abbrev APO:BB:=[(.ret,[AI]),(.exit 0,[AT])]
def Jn[Lk]:(Int×List Int×Int×Int×Unit)->Option ((Int×List Int×Int×Int×Unit)⊕U9⊕U9⊕Unit):=fun(a,c,d,b,_)=>
 match(ilt b d)with
 |true=>match idx c b with|none=>none|some e=>match(!(ieq e a))with
  |true=>some (.inr (.inl (e,())))
  |false=>some (.inl (a,c,d,(w64 (b+1)),()))
 |false=>some (.inr (.inr (.inl (a,()))))
def l5[Lk]:Ue->Option (U9):=fun(a,_)=>
 match A6 Jn many (0,a,(A2 a),0,())with|none=>none|some r=>match r with
 |.inl (b,_)=>some (b,())
 |.inr r=>match r with
 |.inl (c,_)=>some (c,())
 |.inr _=>none
def orI[Lk]:=lkk l5
theorem fM v:orI v=l5 v:=A0 _
def P5[Lk]:U9->Option (Uc):=fun(a,_)=>
 match(ile 1 a)with
 |true=>some ((ile a 64),())
 |false=>some (false,())
def X5[Lk]:=lkk P5
theorem Ro v:X5 v=P5 v:=A0 _
def AG8[Lk]:U9->Option (U9):=fun(a,_)=>
 match X5 (a,())with|none=>none|some (b,_)=>match(!b)with
 |true=>some (0,())
 |false=>match bitsLen ((IntKind.wrap .u64 (w64 (a-1))),())with|none=>none|some (c,_)=>some (c,())
def fR[Lk]:=lkk AG8
theorem AL0 v:fR v=AG8 v:=A0 _
abbrev X9:A1:=[(.tmp 0,.dat U1),(.tmp 1,.dat U1)]
def Og[Lk]:(U2×U2×Unit)->Option (U9):=fun(a,b,_)=>
 match D6 (a.1,b.1,())with|none=>none|some (c,_)=>match D6 (a.2.1,b.2.1,())with|none=>none|some (d,_)=>match orI (([c,d]:List (Int)),())with|none=>none|some (e,_)=>some (e,())
def KN[Lk]:=lkk Og
theorem S7 v:KN v=Og v:=A0 _
abbrev Az:Loc×Con:=(.tmp 0,.dat Un)
abbrev P1:A1:=[Az,AH]
abbrev AUJ:Loc×Con:=(.tmp 0,.own 88 U3)
abbrev Pz:A1:=[AUJ]
abbrev AUK:Loc×Con:=(.tmp 5,.own 88 U3)
abbrev ABL:A1:=[AH,AUK,(.tmp 9,.dat Ui),Aa,Ab]
abbrev cG:BB:=[(.exit 0,[AUK])]
def Ed[Lk]:(Int×List U4×List U2×Int×Int×Unit)->Option ((Int×List U4×List U2×Int×Int×Unit)⊕V7⊕Unit):=fun(d,b,e,f,c,_)=>
 match(ilt c f)with
 |true=>match idx e c with|none=>none|some a=>match a.2.2.2.1 with
  |true=>match(ile d a.2.2.1)with
   |true=>match(fits ((A2 b)+(A2 ([(a.1,(a.2.1,()))]:List U4))))with
    |true=>some (.inl (d,(Bk b ([(a.1,(a.2.1,()))]:List U4)),e,f,(w64 (c+1)),()))
    |false=>none
   |false=>some (.inl (d,b,e,f,(w64 (c+1)),()))
  |false=>some (.inl (d,b,e,f,(w64 (c+1)),()))
 |false=>some (.inr (.inl (b,())))
def P2[Lk]:(Ud×Int×Unit)->Option (V7):=fun(a,b,_)=>
 match A6 Ed many (b,([]:List U4),a.2.1,(A2 a.2.1),0,())with|none=>none|some r=>match r with
 |.inl (c,_)=>some (c,())
 |.inr _=>none
def Rm[Lk]:=lkk P2
theorem Rl v:Rm v=P2 v:=A0 _
abbrev AUL:Loc×Con:=(.tmp 1,.dat V0)
abbrev Jf:A1:=[AA,AUL]
abbrev AUM:Loc×Con:=(.tmp 7,.dat .bool)
abbrev AUN:Loc×Con:=(.tmp 5,.own 3 U0)
abbrev hJ:A1:=[AA,AUL,AUN,AUM,AR]
abbrev gz:BB:=[(.exit 4,[AA,AUL,AUN,AUM])]
def Fk[Lk]:(Int×List U4×List Int×Bool×Int×Unit)->Option ((Int×List U4×List Int×Bool×Int×Unit)⊕(Int×List U4×List Int×Bool×Unit)⊕Unit):=fun(e,c,a,g,f,_)=>
 match(ilt f (A2 c))with
 |true=>match idx c f with|none=>none|some b=>match idx c f with|none=>none|some d=>match(ilt b.1 0)with
  |true=>some (.inl (e,c,a,g,(w64 (f+1)),()))
  |false=>match(ilt d.2.1 0)with
  |true=>some (.inl (e,c,a,g,(w64 (f+1)),()))
  |false=>match(ile e b.1)with
  |true=>some (.inl (e,c,a,g,(w64 (f+1)),()))
  |false=>match(ile e d.2.1)with
  |true=>some (.inl (e,c,a,g,(w64 (f+1)),()))
  |false=>match idx a b.1 with|none=>none|some h=>match idx a d.2.1 with|none=>none|some i=>match(ieq (A5 a (A3 b.1) 0) (A5 a (A3 d.2.1) 0))with
  |true=>some (.inl (e,c,a,g,(w64 (f+1)),()))
  |false=>match idx a b.1 with|none=>none|some j=>match idx a d.2.1 with|none=>none|some k=>match idx a b.1 with|none=>none|some l=>match idx (Ba a (A3 b.1) (Cn (A5 a (A3 b.1) 0) (A5 a (A3 d.2.1) 0))) d.2.1 with|none=>none|some m=>some (.inl (e,c,(Ba (Ba a (A3 b.1) (Cn (A5 a (A3 b.1) 0) (A5 a (A3 d.2.1) 0))) (A3 d.2.1) (Cn (A5 a (A3 b.1) 0) (A5 a (A3 d.2.1) 0))),true,(w64 (f+1)),()))
 |false=>some (.inr (.inl (e,c,a,g,())))
abbrev hO:A1:=[AA,AUL,AUN,AUM]
abbrev g8:BB:=[(.exit 2,[AUN])]
def Hk[Lk]:(Int×List U4×List Int×Bool×Unit)->Option ((Int×List U4×List Int×Bool×Unit)⊕Ue⊕Unit):=fun(b,c,a,d,_)=>
 match d with
 |true=>match A6 Fk many (b,c,a,false,0,())with|none=>none|some r=>match r with
  |.inl (e,f,g,h,_)=>some (.inl (e,f,g,h,()))
  |.inr _=>none
 |false=>some (.inr (.inl (a,())))
abbrev AUO:Loc×Con:=(.tmp 6,.di)
abbrev hQ:A1:=[AA,AUL,AUN,AUO]
abbrev g9:BB:=[(.exit 0,[AA,AUL,AUN])]
def Fl[Lk]:(Int×List U4×List Int×Int×Unit)->Option ((Int×List U4×List Int×Int×Unit)⊕(Int×List U4×List Int×Unit)⊕Unit):=fun(b,d,c,a,_)=>
 match(ilt a b)with
 |true=>match(fits ((A2 c)+(A2 ([a]:List (Int)))))with
  |true=>some (.inl (b,d,(Bk c ([a]:List (Int))),(w64 (a+1)),()))
  |false=>none
 |false=>some (.inr (.inl (b,d,c,())))
def M1[Lk]:(Int×List U4×Unit)->Option (Ue):=fun(a,b,_)=>
 match A6 Fl many (a,b,([]:List (Int)),0,())with|none=>none|some r=>match r with
 |.inl (c,d,e,_)=>match A6 Hk many (c,d,e,true,())with|none=>none|some r=>match r with
  |.inl (f,_)=>some (f,())
  |.inr _=>none
 |.inr _=>none
def Gb[Lk]:=lkk M1
theorem Qw v:Gb v=M1 v:=A0 _
abbrev AEB:A1:=[AT,AS]
def AEA[Lk]:U4->Option (U4⊕U9⊕Unit):=fun(a,b,_)=>
 match(ilt 0 b)with
 |true=>match quo? .i64 b 2 with|none=>none|some c=>some (.inl ((w64 (a+1)),c,()))
 |false=>some (.inr (.inl (a,())))
def vM[Lk]:U9->Option (U9):=fun(a,_)=>
 match(ilt a 1)with
 |true=>some (0,())
 |false=>match(ilt 64 a)with
 |true=>some (0,())
 |false=>match A6 AEA many (0,(w64 (a-1)),())with|none=>none|some r=>match r with
 |.inl (b,_)=>some (b,())
 |.inr _=>none
def PW[Lk]:=lkk vM
theorem AEC v:PW v=vM v:=A0 _
abbrev F_:A1:=[Az]
abbrev AUP:Loc×Con:=(.cell 0 1,.dat Ui)
abbrev AUQ:Loc×Con:=(.tmp 3,.own 88 U3)
abbrev AUR:Loc×Con:=(.tmp 1,.box 2)
abbrev qc:A1:=[AUR,AK,AUP,AUQ,AX,AQ,AR]
abbrev qa:BB:=[(.exit 2,[AUR,AK,AUP,AUQ,AQ])]
def F9[Lk]:(Int×List U2×List U4×List Int×Int×Int×Unit)->Option ((Int×List U2×List U4×List Int×Int×Int×Unit)⊕Vj⊕Unit):=fun(b,d,e,c,f,a,_)=>
 match(ilt a b)with
 |true=>match idx c a with|none=>none|some g=>match(ieq (A5 c (A3 a) 0) a)with
  |true=>some (.inl (b,d,e,c,(w64 (f+1)),(w64 (a+1)),()))
  |false=>some (.inl (b,d,e,c,f,(w64 (a+1)),()))
 |false=>some (.inr (.inl (b,d,e,f,())))
abbrev Xg:A1:=[AUR,AK,AUP,AUQ,AS]
abbrev qb:BB:=[(.ret,[AJ]),(.exit 0,[AUR,AK,AUP,AUQ])]
def E3[Lk]:Vj->Option (Vj⊕Uc⊕(Int×List U2×List U4×Unit)⊕Unit):=fun(e,b,d,c,_)=>
 match(ilt c (A2 b))with
 |true=>match idx b c with|none=>none|some a=>match(ilt a.1 0)with
  |true=>some (.inr (.inl (false,())))
  |false=>match(ile a.2.1 a.1)with
  |true=>some (.inr (.inl (false,())))
  |false=>match(ile e a.2.1)with
  |true=>some (.inr (.inl (false,())))
  |false=>match(ilt a.2.2.1 0)with
  |true=>some (.inr (.inl (false,())))
  |false=>match PW (e,())with|none=>none|some (f,_)=>match(ilt f a.2.2.1)with
  |true=>some (.inr (.inl (false,())))
  |false=>match(ilt 0 c)with
  |true=>match idx b (w64 (c-1))with|none=>none|some g=>match(ilt a.1 g.1)with
   |true=>some (.inr (.inl (false,())))
   |false=>match idx b (w64 (c-1))with|none=>none|some h=>match(ieq h.1 a.1)with
   |true=>match idx b (w64 (c-1))with|none=>none|some i=>match(ile a.2.1 i.2.1)with
    |true=>some (.inr (.inl (false,())))
    |false=>match a.2.2.2.1 with
    |true=>match(fits ((A2 d)+(A2 ([(a.1,(a.2.1,()))]:List U4))))with
     |true=>some (.inl (e,b,(Bk d ([(a.1,(a.2.1,()))]:List U4)),(w64 (c+1)),()))
     |false=>none
    |false=>some (.inl (e,b,d,(w64 (c+1)),()))
   |false=>match a.2.2.2.1 with
   |true=>match(fits ((A2 d)+(A2 ([(a.1,(a.2.1,()))]:List U4))))with
    |true=>some (.inl (e,b,(Bk d ([(a.1,(a.2.1,()))]:List U4)),(w64 (c+1)),()))
    |false=>none
   |false=>some (.inl (e,b,d,(w64 (c+1)),()))
  |false=>match a.2.2.2.1 with
  |true=>match(fits ((A2 d)+(A2 ([(a.1,(a.2.1,()))]:List U4))))with
   |true=>some (.inl (e,b,(Bk d ([(a.1,(a.2.1,()))]:List U4)),(w64 (c+1)),()))
   |false=>none
  |false=>some (.inl (e,b,d,(w64 (c+1)),()))
 |false=>some (.inr (.inr (.inl (e,b,d,()))))
def GB[Lk]:(Ud×Unit)->Option (Uc):=fun(a,_)=>
 match(ilt a.1 1)with
 |true=>some (false,())
 |false=>match(ilt 64 a.1)with
 |true=>some (false,())
 |false=>match(ilt 400 (A2 a.2.1))with
 |true=>some (false,())
 |false=>match A6 E3 many (a.1,a.2.1,([]:List U4),0,())with|none=>none|some r=>match r with
 |.inl (d,_)=>some (d,())
 |.inr r=>match r with
 |.inl (b,e,c,_)=>match Gb (b,c,())with|none=>none|some (f,_)=>match A6 F9 many (b,e,c,f,0,0,())with|none=>none|some r=>match r with
  |.inl (g,j,h,i,_)=>some ((ieq i (w64 (g-(A2 h)))),())
  |.inr _=>none
 |.inr _=>none
def Ex[Lk]:=lkk GB
theorem GA v:Ex v=GB v:=A0 _
abbrev pJ:A1:=[AH,AN,AK,AUP,AUK,AUO]
def IK[Lk]:(Int×Int×List U2×List U4×Int×Unit)->Option ((Int×Int×List U2×List U4×Int×Unit)⊕V7⊕Unit):=fun(d,e,a,c,b,_)=>
 match(ilt b (A2 a))with
 |true=>match idx a b with|none=>none|some h=>match h.2.2.2.1 with
  |true=>match idx a b with|none=>none|some i=>match(ile d i.2.2.1)with
   |true=>match idx a b with|none=>none|some f=>match idx a b with|none=>none|some g=>match(fits ((A2 c)+(A2 ([(f.1,(g.2.1,()))]:List U4))))with
    |true=>some (.inl (d,e,a,(Bk c ([(f.1,(g.2.1,()))]:List U4)),(w64 (b+1)),()))
    |false=>none
   |false=>some (.inl (d,e,a,c,(w64 (b+1)),()))
  |false=>some (.inl (d,e,a,c,(w64 (b+1)),()))
 |false=>some (.inr (.inl (c,())))
def RR[Lk]:(Ud×Int×Unit)->Option (V7):=fun(a,b,_)=>
 match A6 IK many (b,a.1,a.2.1,([]:List U4),0,())with|none=>none|some r=>match r with
 |.inl (c,_)=>some (c,())
 |.inr _=>none
def T_[Lk]:=lkk RR
theorem W2 v:T_ v=RR v:=A0 _
abbrev AUS:Loc×Con:=(.tmp 0,.dat Uy)
abbrev AIz:A1:=[AUS,AH]
def Yz[Lk]:Uj->Option (U9):=fun(a,b,_)=>
 match(ilt b 0)with
 |true=>some (0,())
 |false=>match(ieq (A2 a) 0)with
 |true=>some (0,())
 |false=>match rem? b (A2 a)with|none=>none|some c=>match idx a c with|none=>none|some d=>some (d,())
def Y0[Lk]:=lkk Yz
theorem cx v:Y0 v=Yz v:=A0 _
def ow[Lk]:U9->Option (U9):=fun(b,_)=>
 match(ieq b 0)with
 |true=>some (32,())
 |false=>match shr? .u32 (IntKind.wrap .u32 ((IntKind.wrap .u32 ((BitVec.ofInt (IntKind.bits .u32) b &&& BitVec.ofInt (IntKind.bits .u32) (IntKind.wrap .u32 (0-b))).toNat))*125613361)) 27 with|none=>none|some a=>match(ile 0 a&&(ilt a 32&&ilt a (A2 ml)))with
 |true=>some ((w64 (A5 ml (A3 a) 0)),())
 |false=>none
def yF[Lk]:=lkk ow
theorem vK v:yF v=ow v:=A0 _
def SY[Lk]:U9->Option (U9):=fun(a,_)=>
 match yF (a,())with|none=>none|some (b,_)=>some ((Cn (w64 (b+1)) 8),())
def VF[Lk]:=lkk SY
theorem Y4 v:VF v=SY v:=A0 _
def Wp[Lk]:U9->Option (Uc):=fun(a,_)=>
 match(ile 1 a)with
 |true=>some ((ile a 8),())
 |false=>some (false,())
def db[Lk]:=lkk Wp
theorem av v:db v=Wp v:=A0 _
abbrev Ny:A1:=[AD,(.tmp 1,.clo 129 [])]
abbrev YI:A1:=[AD,(.tmp 1,.clo 129 []),AQ,AR]
def EM[Lk]:Uf->Option (Uf⊕U9⊕(Unit)⊕Unit):=fun(b,c,a,_)=>
 match(ilt a c)with
 |true=>match idx b a with|none=>none|some d=>match db (d,())with|none=>none|some (e,_)=>match(!e)with
  |true=>some (.inr (.inl (a,())))
  |false=>some (.inl (b,c,(w64 (a+1)),()))
 |false=>some (.inr (.inr (.inl ())))
def Jr[Lk]:Ue->Option (U9):=fun(a,_)=>
 match A6 EM many (a,(A2 a),0,())with|none=>none|some r=>match r with
 |.inl (b,_)=>some (b,())
 |.inr r=>match r with
 |.inl _=>some ((-1:Int),())
 |.inr _=>none
def MX[Lk]:=lkk Jr
theorem MW v:MX v=Jr v:=A0 _
abbrev AUT:Loc×Con:=(.tmp 1,.dat Uy)
abbrev jU:A1:=[AD,AUT]
abbrev de:A1:=[AUT,AUN,(.tmp 8,.dat U5),Ad,Aa]
abbrev dc:BB:=[(.exit 0,[AUN])]
def FQ[Lk]:Uz->Option (Uz⊕Ue⊕Unit):=fun(c,a,d,e,b,_)=>
 match(ilt b e)with
 |true=>match idx d b with|none=>none|some f=>match(ilt f 0)with
  |true=>match(fits ((A2 a)+(A2 ([1]:List (Int)))))with
   |true=>some (.inl (c,(Bk a ([1]:List (Int))),d,e,(w64 (b+1)),()))
   |false=>none
  |false=>match Y0 (c,f,())with|none=>none|some (h,_)=>match VF (h,())with|none=>none|some (g,_)=>match(fits ((A2 a)+(A2 ([g]:List (Int)))))with
  |true=>some (.inl (c,(Bk a ([g]:List (Int))),d,e,(w64 (b+1)),()))
  |false=>none
 |false=>some (.inr (.inl (a,())))
def Lz[Lk]:V2->Option (Ue):=fun(a,b,_)=>
 match A6 FQ many (b,([]:List (Int)),a,(A2 a),0,())with|none=>none|some r=>match r with
 |.inl (c,_)=>some (c,())
 |.inr _=>none
def NG[Lk]:=lkk Lz
theorem PQ v:NG v=Lz v:=A0 _
abbrev AUU:Loc×Con:=(.tmp 1,.clo 191 [(1,0)])
abbrev AUV:Loc×Con:=(.cell 1 0,.map U3 U0)
abbrev QT:A1:=[AUJ,(.cap 1 0,.box 1),AUV,AUU]
abbrev AUW:Loc×Con:=(.obj 0,.own 88 U3)
abbrev AUX:Loc×Con:=(.obj 2,.map' 2)
abbrev fw:A1:=[AUW,Ao,AUV,AUX,AA]
abbrev Z':A1:=[AUW,Ao,AUV,AUX,Aj,AUU,AQ,AR]
abbrev Z_:BB:=[(.ret,[AUW,Ao,AUV,AUX,AS]),(.exit 0,[AUW,Ao,AUV,AUX])]
def Z9[Lk]:(List U4×List Vd×Int×Int×Unit)->Option ((List U4×List Vd×Int×Int×Unit)⊕(List U4×List Vd×Int×Unit)⊕(List U4×List Vd×Unit)⊕Unit):=fun(a,c,d,b,_)=>
 match(ilt b d)with
 |true=>match idx a b with|none=>none|some e=>match(ieq ((A9 c ((A5 a (A3 b) (0,(0,()))).1,((A5 a (A3 b) (0,(0,()))).2.1,()))).getD 0) 0)with
  |true=>some (.inr (.inl (a,c,b,())))
  |false=>some (.inl (a,c,d,(w64 (b+1)),()))
 |false=>some (.inr (.inr (.inl (a,c,()))))
def QU[Lk]:(List U4×List Vd×Unit)->Option ((List U4×List Vd×Int×Unit)):=fun(a,b,_)=>
 match A6 Z9 many (a,b,(A2 a),0,())with|none=>none|some r=>match r with
 |.inl (c,d,e,_)=>some (c,d,e,())
 |.inr r=>match r with
 |.inl (f,g,_)=>some (f,g,(-1:Int),())
 |.inr _=>none
def Ow[Lk]:=lkk QU
theorem aA v:Ow v=QU v:=A0 _
abbrev tD:A1:=[(.tmp 0,.dat U3),(.tmp 1,.dat U3)]
def LO[Lk]:(U4×U4×Unit)->Option (U9):=fun(a,b,_)=>
 match D6 (a.1,b.1,())with|none=>none|some (c,_)=>match D6 (a.2.1,b.2.1,())with|none=>none|some (d,_)=>match orI (([c,d]:List (Int)),())with|none=>none|some (e,_)=>some (e,())
def Bh[Lk]:=lkk LO
theorem Mi v:Bh v=LO v:=A0 _
abbrev AUY:Loc×Con:=(.tmp 3,.clo 108 [])
abbrev Rz:A1:=[AUJ,AH,AI,AUY]
abbrev Im:A1:=[AUW]
abbrev AMT:A1:=[AUW,Aj,AH,AI,AUY,AR,Ad]
abbrev AMS:BB:=[(.exit 2,[AUW,Aj,AH,AI,AUY,AR])]
abbrev AMU:A1:=[AUW,Aj,AH,AI,AUY,AR]
abbrev fh:BB:=[(.exit 0,[AUW])]
def APh[Lk]:=On ((0,(0,())):U4) Bh tLt
def ARB[Lk]:=s8 ((0,(0,())):U4) Bh tLt
theorem AMV v:ARB v=APh v:=A0 _
abbrev AUZ:Loc×Con:=(.tmp 4,.clo 108 [])
abbrev JH:A1:=[AUJ,AH,AI,AT,AUZ]
abbrev AEy:A1:=[AUW,Aj,AI,AT,AUZ,Aa]
abbrev AEx:BB:=[(.exit 0,[AUW]),(.ret,[AUW])]
def AKp[Lk]:=Kx ((0,(0,())):U4) Bh tLt
def ANt[Lk]:=Sl ((0,(0,())):U4) Bh tLt
theorem AEz v:ANt v=AKp v:=A0 _
abbrev AHv:A1:=[AUW,Aj,AUY,AR,Ad,AP]
abbrev AHt:BB:=[(.exit 2,[AUW])]
abbrev AHw:A1:=[AUW,Aj,AUY,AR,Ad,Aa,Ab]
abbrev AHu:BB:=[(.exit 0,[AUW,Aj,AUY,AR,Ad,Aa])]
def AMe[Lk]:=LN ((0,(0,())):U4) Bh tLt
def AN8[Lk]:=YR ((0,(0,())):U4) Bh tLt
theorem AHx v:AN8 v=AMe v:=A0 _
abbrev ADQ:A1:=[AUW,Aj,AH,AR,(.tmp 9,.box 1),Al,Am,Ab]
def AJR[Lk]:=I2 ((0,(0,())):U4) Bh tLt
def AJT[Lk]:=O_ ((0,(0,())):U4) Bh tLt
theorem ADR v:AJT v=AJR v:=A0 _
abbrev AAm:A1:=[AUJ,AH,AI,An,AL,AUZ]
abbrev AAl:A1:=[AUW,Ao,AL,AA,AH]
def AAn[Lk]:=GJ ((0,(0,())):U4) Bh tLt
def wN[Lk]:=Hb ((0,(0,())):U4) Bh tLt
theorem sI v:wN v=AAn v:=A0 _
abbrev AA4:A1:=[AUJ,AH,AI,AT,Ap,AL,(.tmp 5,.clo 108 [])]
abbrev cF:A1:=[AUW,Ao,AL,AA]
def AA5[Lk]:=GM ((0,(0,())):U4) Bh tLt
def wY[Lk]:=He ((0,(0,())):U4) Bh tLt
theorem sV v:wY v=AA5 v:=A0 _
abbrev ABG:A1:=[AUJ,AH,Aq,AL,AUY]
def ABH[Lk]:=GN ((0,(0,())):U4) Bh tLt
def wg[Lk]:=Hf ((0,(0,())):U4) Bh tLt
theorem sb v:wg v=ABH v:=A0 _
abbrev AGE:A1:=[AUW,AA,AH]
def AGF[Lk]:=IY ((0,(0,())):U4) Bh tLt
def AGH[Lk]:=OQ ((0,(0,())):U4) Bh tLt
theorem z8 v:AGH v=AGF v:=A0 _
abbrev AK7:A1:=[AUW,Aj,AR,Ad]
def AOk[Lk]:=OO ((0,(0,())):U4) Bh tLt
def AQr[Lk]:=qd ((0,(0,())):U4) Bh tLt
theorem AK8 v:AQr v=AOk v:=A0 _
abbrev ra:A1:=[AUW,AE]
abbrev lZ:A1:=[AUW,Aj,AH,AI,AUY,Ad,Aa,AP]
abbrev lV:BB:=[(.exit 6,[AUW,Aj,AH,AI,AUY,Ad,Aa])]
abbrev ld:A1:=[AUW,Aj,AH,AI,AUY,Ad,Aa,Ab]
abbrev lW:BB:=[(.exit 4,[AUW,Aj,AH,AI,AUY,Ad,Aa])]
abbrev S0:A1:=[AUW,Aj,AH,AI,AUY,Ad,Aa]
abbrev lX:BB:=[(.exit 2,[AUW,Aj,AH,AI,AUY,Ad,Aa])]
abbrev lY:BB:=[(.ret,[AUW,Ar]),(.exit 0,[AUW])]
def rb[Lk]:=E6 ((0,(0,())):U4) Bh tLt
def lh[Lk]:=Ib ((0,(0,())):U4) Bh tLt
theorem lf v:lh v=rb v:=A0 _
abbrev AAV:A1:=[AUW,AA]
abbrev OY:A1:=[AUW,Aj,AH,AUZ,Ab,AP]
abbrev r8:BB:=[(.exit 4,[AUW,Aj,AH,AUZ,Ab,AP])]
abbrev r9:BB:=[(.exit 2,[AUW,Aj,AH,AUZ,Ab,AP])]
abbrev sC:BB:=[(.exit 0,[AUW,Ab])]
def AAW[Lk]:=GH ((0,(0,())):U4) Bh tLt
def wJ[Lk]:=K3 ((0,(0,())):U4) Bh tLt
theorem sD v:wJ v=AAW v:=A0 _
abbrev ALi:A1:=[AUW,AA,As]
abbrev MJ:A1:=[AUW,Aj,AH,AUZ,AP,AO]
abbrev AGq:BB:=[(.exit 8,[AUW,Aj,AH,AUZ,AP,AO])]
abbrev AGr:BB:=[(.exit 6,[AUW,Aj,AH,AUZ,AP,AO])]
abbrev AGs:BB:=[(.exit 4,[AUW,Aj,AH,AO])]
abbrev AGt:BB:=[(.exit 2,[AUW,Aj,AH,AUZ,AP,AO])]
abbrev AGu:BB:=[(.exit 0,[AUW,Aj,AH,AUZ,AP,AO])]
def ALj[Lk]:=K2 ((0,(0,())):U4) Bh tLt
def AN1[Lk]:=Ps ((0,(0,())):U4) Bh tLt
theorem AGv v:AN1 v=ALj v:=A0 _
abbrev wF:A1:=[AUW,Aj,AH,AI,AT,AUZ,At,Au]
abbrev wE:BB:=[(.ret,[AUW])]
def wD[Lk]:=JL ((0,(0,())):U4) Bh tLt
def APA[Lk]:=OR ((0,(0,())):U4) Bh tLt
def Xt[Lk]:=Ia ((0,(0,())):U4) Bh tLt
def ALa[Lk]:=rO ((0,(0,())):U4) Bh tLt
theorem ALZ v:ALa v=Xt 100 v:=A0 _
abbrev AKb:A1:=[AUJ,(.tmp 1,.clo 108 [])]
def AKc[Lk]:=Kv ((0,(0,())):U4) Bh tLt
def vb[Lk]:=bS ((0,(0,())):U4) Bh tLt
theorem AEj v:vb v=AKc v:=A0 _
def vF[Lk]:U9->Option (Uc):=fun(a,_)=>
 some ((ieq a (w64 (IntKind.wrap .u16 a))),())
def ak[Lk]:=lkk vF
theorem ADq v:ak v=vF v:=A0 _
def jL[Lk]:U9->Option (Uc):=fun(a,_)=>
 match(ile 1 a)with
 |true=>some ((ile a 4),())
 |false=>some (false,())
def om[Lk]:=lkk jL
theorem xw v:om v=jL v:=A0 _
abbrev QR:A1:=[Ax,(.tmp 1,.clo 160 [])]
abbrev Z7:A1:=[Ax,(.tmp 1,.clo 160 []),AQ,AR]
def Z6[Lk]:(List U4×Int×Int×Unit)->Option ((List U4×Int×Int×Unit)⊕U9⊕(Unit)⊕Unit):=fun(b,c,a,_)=>
 match(ilt a c)with
 |true=>match idx b a with|none=>none|some d=>match ak (d.1,())with|none=>none|some (e,_)=>match(!e)with
  |true=>some (.inr (.inl (a,())))
  |false=>match ak (d.2.1,())with|none=>none|some (f,_)=>match(!f)with
  |true=>some (.inr (.inl (a,())))
  |false=>some (.inl (b,c,(w64 (a+1)),()))
 |false=>some (.inr (.inr (.inl ())))
def QS[Lk]:V7->Option (U9):=fun(a,_)=>
 match A6 Z6 many (a,(A2 a),0,())with|none=>none|some r=>match r with
 |.inl (b,_)=>some (b,())
 |.inr r=>match r with
 |.inl _=>some ((-1:Int),())
 |.inr _=>none
def Ov[Lk]:=lkk QS
theorem Z8 v:Ov v=QS v:=A0 _
def N4[Lk]:V7->Option (Uc):=fun(a,_)=>
 match Ov (a,())with|none=>none|some (b,_)=>some ((ile 0 b),())
def Jd[Lk]:=lkk N4
theorem Yv v:Jd v=N4 v:=A0 _
abbrev QV:A1:=[(.tmp 0,.dat Va),(.tmp 1,.clo 163 [])]
abbrev aC:A1:=[(.tmp 0,.dat Va),(.tmp 1,.clo 163 []),AQ,AR]
def aB[Lk]:(List Ub×Int×Int×Unit)->Option ((List Ub×Int×Int×Unit)⊕U9⊕(Unit)⊕Unit):=fun(c,d,a,_)=>
 match(ilt a d)with
 |true=>match idx c a with|none=>none|some b=>match om (b.1,())with|none=>none|some (e,_)=>match(!e)with
  |true=>some (.inr (.inl (a,())))
  |false=>match ak (b.2.1,())with|none=>none|some (f,_)=>match(!f)with
  |true=>some (.inr (.inl (a,())))
  |false=>match ak (b.2.2.1,())with|none=>none|some (g,_)=>match(!g)with
  |true=>some (.inr (.inl (a,())))
  |false=>some (.inl (c,d,(w64 (a+1)),()))
 |false=>some (.inr (.inr (.inl ())))
def QW[Lk]:(List Ub×Unit)->Option (U9):=fun(a,_)=>
 match A6 aB many (a,(A2 a),0,())with|none=>none|some r=>match r with
 |.inl (b,_)=>some (b,())
 |.inr r=>match r with
 |.inl _=>some ((-1:Int),())
 |.inr _=>none
def Ox[Lk]:=lkk QW
theorem aD v:Ox v=QW v:=A0 _
def N5[Lk]:(List Ub×Unit)->Option (Uc):=fun(a,_)=>
 match Ox (a,())with|none=>none|some (b,_)=>some ((ile 0 b),())
def Mx[Lk]:=lkk N5
theorem Yw v:Mx v=N5 v:=A0 _
abbrev jI:A1:=[(.tmp 0,.dat (.prod U0 (.prod V0 (.prod Va .unit))))]
def jJ[Lk]:((Int×(List U4)×(List Ub)×Unit)×Unit)->Option (Uc):=fun(a,_)=>
 match(ieq a.1 1)with
 |true=>match(ieq (A2 a.2.2.1) 0)with
  |true=>match(ile (A2 a.2.1) 60)with
   |true=>match Jd (a.2.1,())with|none=>none|some (b,_)=>some ((!b),())
   |false=>some (false,())
  |false=>some (false,())
 |false=>match(ieq a.1 2)with
 |true=>match(ieq (A2 a.2.2.1) 0)with
  |true=>match(ile (A2 a.2.1) 60)with
   |true=>match Jd (a.2.1,())with|none=>none|some (c,_)=>some ((!c),())
   |false=>some (false,())
  |false=>some (false,())
 |false=>match(ieq a.1 3)with
 |true=>match(ieq (A2 a.2.1) 0)with
  |true=>match(ile (A2 a.2.2.1) 60)with
   |true=>match Mx (a.2.2.1,())with|none=>none|some (d,_)=>some ((!d),())
   |false=>some (false,())
  |false=>some (false,())
 |false=>some (false,())
def oh[Lk]:=lkk jJ
theorem xk v:oh v=jJ v:=A0 _
abbrev AJh:A1:=[(.tmp 0,.dat (.prod U0 U3))]
def oB[Lk]:(Ub×Unit)->Option (Ue):=fun(a,_)=>
 match(ieq a.1 1)with
 |true=>some (([a.2.1,a.2.2.1]:List (Int)),())
 |false=>match(ieq a.1 2)with
 |true=>some (([a.2.1]:List (Int)),())
 |false=>match(ieq a.1 3)with
 |true=>some (([a.2.1]:List (Int)),())
 |false=>some (([]:List (Int)),())
def uq[Lk]:=lkk oB
theorem ADV v:uq v=oB v:=A0 _
abbrev AUa:Loc×Con:=(.tmp 25,.di)
abbrev AJZ:A1:=[Ay,(.tmp 24,.dat Va),AUa,AZ]
abbrev AJX:BB:=[(.exit 2,[Ay])]
def AJV[Lk]:(List Int×List Ub×Int×Int×Unit)->Option ((List Int×List Ub×Int×Int×Unit)⊕Ue⊕Unit):=fun(a,d,e,b,_)=>
 match(ilt b e)with
 |true=>match idx d b with|none=>none|some c=>match uq ((c.1,(c.2.1,(c.2.2.1,()))),())with|none=>none|some (f,_)=>match(fits ((A2 a)+(A2 f)))with
  |true=>some (.inl ((Bk a f),d,e,(w64 (b+1)),()))
  |false=>none
 |false=>some (.inr (.inl (a,())))
abbrev AUb:Loc×Con:=(.tmp 1,.box 3)
abbrev AJa:A1:=[AUb,AK,(.cell 0 1,.dat V0),(.cell 0 2,.dat Va),Ay,(.tmp 9,.dat V0),Aa,Ab]
abbrev AJY:BB:=[(.exit 0,[AUb,AK,(.cell 0 1,.dat V0),(.cell 0 2,.dat Va),Ay])]
def AJW[Lk]:(Int×List U4×List Ub×List Int×List U4×Int×Int×Unit)->Option ((Int×List U4×List Ub×List Int×List U4×Int×Int×Unit)⊕(Int×List U4×List Ub×List Int×Unit)⊕Unit):=fun(d,e,f,b,g,h,c,_)=>
 match(ilt c h)with
 |true=>match idx g c with|none=>none|some a=>match(fits ((A2 b)+(A2 ([a.1,a.2.1]:List (Int)))))with
  |true=>some (.inl (d,e,f,(Bk b ([a.1,a.2.1]:List (Int))),g,h,(w64 (c+1)),()))
  |false=>none
 |false=>some (.inr (.inl (d,e,f,b,())))
def xW[Lk]:((Int×(List U4)×(List Ub)×Unit)×Unit)->Option (Ue):=fun(a,_)=>
 match A6 AJW many (a.1,a.2.1,a.2.2.1,([]:List (Int)),a.2.1,(A2 a.2.1),0,())with|none=>none|some r=>match r with
 |.inl (e,f,b,c,_)=>match A6 AJV many (c,b,(A2 b),0,())with|none=>none|some r=>match r with
  |.inl (d,_)=>some (d,())
  |.inr _=>none
 |.inr _=>none
def AJc[Lk]:=lkk xW
theorem AJb v:AJc v=xW v:=A0 _
def xO[Lk]:U9->Option (Uc):=fun(a,_)=>
 match(ile 0 a)with
 |true=>some ((ilt a 65536),())
 |false=>some (false,())
def xP[Lk]:=lkk xO
theorem AIg v:xP v=xO v:=A0 _
abbrev AIe:A1:=[(.tmp 0,.dat U3)]
abbrev APz:A1:=[(.tmp 0,.dat Ug),As]
def AIf[Lk]:(U4×Unit)->Option ((Int×Bool×Unit)):=fun(a,_)=>
 match xP (a.1,())with|none=>none|some (b,_)=>match(!b)with
 |true=>some (0,false,())
 |false=>match xP (a.2.1,())with|none=>none|some (c,_)=>match(!c)with
 |true=>some (0,false,())
 |false=>match shl? .u32 (IntKind.wrap .u32 (Cn a.1 a.2.1)) 16 with|none=>none|some d=>some ((IntKind.wrap .u32 ((BitVec.ofInt (IntKind.bits .u32) d ||| BitVec.ofInt (IntKind.bits .u32) (IntKind.wrap .u32 (imax a.1 a.2.1))).toNat)),true,())
def AP1[Lk]:=lkk AIf
theorem ANE v:AP1 v=AIf v:=A0 _
def xQ[Lk]:U9->Option ((U4×Unit)):=fun(a,_)=>
 match shr? .u32 a 16 with|none=>none|some b=>some (((w64 b),((w64 (IntKind.wrap .u16 a)),())),())
def AIk[Lk]:=lkk xQ
theorem AIj v:AIk v=xQ v:=A0 _
abbrev cn:A1:=[AUS]
abbrev AUc:Loc×Con:=(.tmp 0,.own 4 .bool)
abbrev ACa:A1:=[AUc]
abbrev uB:A1:=[AUS,(.tmp 3,.own 4 .bool),(.tmp 9,.dat Uy),Aa,Ab]
abbrev uA:BB:=[(.exit 0,[(.tmp 3,.own 4 .bool)])]
def tz[Lk]:(List Int×List Bool×List Int×Int×Int×Unit)->Option ((List Int×List Bool×List Int×Int×Int×Unit)⊕(List Bool×Unit)⊕Unit):=fun(c,b,d,e,a,_)=>
 match(ilt a e)with
 |true=>match idx d a with|none=>none|some f=>match(ieq a 0)with
  |true=>match idx b a with|none=>none|some h=>some (.inl (c,(Ba b (A3 a) true),d,e,(w64 (a+1)),()))
  |false=>match idx c (w64 (a-1))with|none=>none|some g=>match idx b a with|none=>none|some i=>some (.inl (c,(Ba b (A3 a) (!(ieq g f))),d,e,(w64 (a+1)),()))
 |false=>some (.inr (.inl (b,())))
def cp[Lk]:Ue->Option ((List Bool×Unit)):=fun(a,_)=>
 match(CC (A2 a)&&CC (A2 a)&&ile (A2 a) (A2 a)&&true)with
 |true=>match A6 tz many (a,(C5 (A3 (A2 a)) false),a,(A2 a),(0:Int),())with|none=>none|some r=>match r with
  |.inl (b,_)=>some (b,())
  |.inr _=>none
 |false=>none
def ga[Lk]:=lkk cp
theorem uC v:ga v=cp v:=A0 _
def bq[Lk]:U9->Option (U9):=fun(a,_)=>
 match(ilt a 1)with
 |true=>some (0,())
 |false=>match(ilt 16 a)with
 |true=>some (0,())
 |false=>match quo? .i64 (w64 ((w64 (32+a))-1)) a with|none=>none|some b=>some (b,())
def UK[Lk]:=lkk bq
theorem qY v:UK v=bq v:=A0 _
def kG[Lk]:U4->Option (Uc):=fun(a,b,_)=>
 match(ile 0 a)with
 |true=>match UK (b,())with|none=>none|some (c,_)=>some ((ilt a c),())
 |false=>some (false,())
def qS[Lk]:=lkk kG
theorem zS v:qS v=kG v:=A0 _
abbrev AFY:A1:=[(.tmp 0,.dat Ug),AH,AI]
def kS[Lk]:Ub->Option (U9):=fun(c,b,a,_)=>
 match qS (b,a,())with|none=>none|some (d,_)=>match(!d)with
 |true=>some (0,())
 |false=>match shr? .u32 c (IntKind.wrap .u64 (w64 (b*a)))with|none=>none|some e=>match shl? .u32 1 (IntKind.wrap .u64 a)with|none=>none|some f=>some ((IntKind.wrap .u32 ((BitVec.ofInt (IntKind.bits .u32) e &&& BitVec.ofInt (IntKind.bits .u32) (IntKind.wrap .u32 (f-1))).toNat)),())
def ei[Lk]:=lkk kS
theorem zh v:ei v=kS v:=A0 _
abbrev AFS:A1:=[AD,AH,(.tmp 5,.map U0 U0),(.tmp 9,.dat U5),Aa,Ab]
abbrev AFR:BB:=[(.ret,[AG]),(.exit 0,[AD,AH])]
def AFQ[Lk]:(List Int×Int×List Um×List Int×Int×Int×Unit)->Option ((List Int×Int×List Um×List Int×Int×Int×Unit)⊕Uc⊕Uj⊕Unit):=fun(e,c,b,f,g,d,_)=>
 match(ilt d g)with
 |true=>match idx f d with|none=>none|some a=>match(ilt a 0)with
  |true=>some (.inr (.inl (false,())))
  |false=>match(ile c a)with
  |true=>some (.inr (.inl (false,())))
  |false=>match(ilt 1 ((A9 (BI b a (w64 (((A9 b a).getD 0)+1))) a).getD 0))with
  |true=>some (.inr (.inl (false,())))
  |false=>some (.inl (e,c,(BI b a (w64 (((A9 b a).getD 0)+1))),f,g,(w64 (d+1)),()))
 |false=>some (.inr (.inr (.inl (e,c,()))))
def vj[Lk]:Uj->Option (Uc):=fun(a,b,_)=>
 match A6 AFQ many (a,b,([]:List Um),a,(A2 a),0,())with|none=>none|some r=>match r with
 |.inl (c,_)=>some (c,())
 |.inr r=>match r with
 |.inl (d,e,_)=>some ((ieq (A2 d) e),())
 |.inr _=>none
def AFU[Lk]:=lkk vj
theorem AFT v:AFU v=vj v:=A0 _
abbrev AQs:A1:=[AUS,AB,AI,AT]
abbrev AUd:Loc×Con:=(.tmp 13,.own 3 U0)
abbrev AUe:Loc×Con:=(.tmp 9,.own 3 U0)
abbrev AOt:A1:=[AUS,AI,AT,AUe,AUd,(.tmp 63,.dat U5),(.tmp 64,.di),(.tmp 65,.di)]
abbrev AOq:BB:=[(.exit 4,[AUd])]
def AOn[Lk]:(List Int×Int×Int×List Int×List Int×List Int×Int×Int×Unit)->Option ((List Int×Int×Int×List Int×List Int×List Int×Int×Int×Unit)⊕Ue⊕Unit):=fun(e,f,g,a,c,h,i,d,_)=>
 match(ilt d i)with
 |true=>match idx h d with|none=>none|some j=>match idx e j with|none=>none|some k=>match ei (k,f,g,())with|none=>none|some (b,_)=>match idx a b with|none=>none|some l=>match idx c (A5 a (A3 b) 0)with|none=>none|some m=>match idx a b with|none=>none|some n=>match idx a b with|none=>none|some o=>some (.inl (e,f,g,(Ba a (A3 b) (w64 ((A5 a (A3 b) 0)+1))),(Ba c (A3 (A5 a (A3 b) 0)) j),h,i,(w64 (d+1)),()))
 |false=>some (.inr (.inl (c,())))
abbrev AUf:Loc×Con:=(.tmp 45,.di)
abbrev AOu:A1:=[AUS,AB,AI,AT,AUe,(.tmp 44,.di),AUf]
abbrev AOr:BB:=[(.exit 2,[AUS,AB,AI,AT,AUe])]
def AOo[Lk]:(List Int×List Int×Int×Int×List Int×Int×Int×Unit)->Option ((List Int×List Int×Int×Int×List Int×Int×Int×Unit)⊕(List Int×List Int×Int×Int×List Int×Unit)⊕Unit):=fun(c,d,e,f,b,g,a,_)=>
 match(ilt a g)with
 |true=>match idx b (w64 (a+1))with|none=>none|some h=>match idx b a with|none=>none|some i=>match idx b (w64 (a+1))with|none=>none|some j=>some (.inl (c,d,e,f,(Ba b (A3 (w64 (a+1))) (w64 ((A5 b (A3 (w64 (a+1))) 0)+(A5 b (A3 a) 0)))),g,(w64 (a+1)),()))
 |false=>some (.inr (.inl (c,d,e,f,b,())))
abbrev AUg:Loc×Con:=(.tmp 24,.di)
abbrev AOv:A1:=[AUS,AB,AI,AT,AUe,(.tmp 22,.dat U5),(.tmp 23,.di),AUg]
abbrev AOs:BB:=[(.exit 0,[AUS,AB,AI,AT,AUe])]
def AOp[Lk]:V3->Option (V3⊕(List Int×List Int×Int×Int×List Int×Unit)⊕Unit):=fun(c,g,d,e,a,h,i,f,_)=>
 match(ilt f i)with
 |true=>match idx h f with|none=>none|some j=>match idx c j with|none=>none|some k=>match ei (k,d,e,())with|none=>none|some (b,_)=>match idx a (IntKind.wrap .u32 (b+1))with|none=>none|some l=>match idx a (IntKind.wrap .u32 (b+1))with|none=>none|some m=>some (.inl (c,g,d,e,(Ba a (A3 (IntKind.wrap .u32 (b+1))) (w64 ((A5 a (A3 (IntKind.wrap .u32 (b+1))) 0)+1))),h,i,(w64 (f+1)),()))
 |false=>some (.inr (.inl (c,g,d,e,a,())))
def ANw[Lk]:Up->Option (Ue):=fun(f,c,g,d,_)=>
 match shl? .i64 1 (IntKind.wrap .u64 d)with|none=>none|some b=>match(CC (w64 (b+1))&&CC (w64 (b+1))&&ile (w64 (b+1)) (w64 (b+1))&&true)with
 |true=>match A6 AOp many (f,c,g,d,(C5 (A3 (w64 (b+(1:Int)))) (0:Int)),c,(A2 c),(0:Int),())with|none=>none|some r=>match r with
  |.inl (h,i,j,k,e,_)=>match A6 AOo many (h,i,j,k,e,(w64 ((A2 e)-1)),0,())with|none=>none|some r=>match r with
   |.inl (l,a,m,n,o,_)=>match(CC (A2 a)&&CC (A2 a)&&ile (A2 a) (A2 a)&&true)with
    |true=>match A6 AOn many (l,m,n,o,(C5 (A3 (A2 a)) (0:Int)),a,(A2 a),(0:Int),())with|none=>none|some r=>match r with
     |.inl (p,_)=>some (p,())
     |.inr _=>none
    |false=>none
   |.inr _=>none
  |.inr _=>none
 |false=>none
def rby[Lk]:=lkk ANw
theorem AOw v:rby v=ANw v:=A0 _
def Sj[Lk]:U4->Option (Uc):=fun(a,b,_)=>
 match(ile 1 a)with
 |true=>match(ile a 1000)with
  |true=>match(ile 1 b)with
   |true=>some ((ile b 100),())
   |false=>some (false,())
  |false=>some (false,())
 |false=>some (false,())
def NI[Lk]:=lkk Sj
theorem du v:NI v=Sj v:=A0 _
abbrev AUh:Loc×Con:=(.tmp 0,.dat (.prod V1 (.prod U0 (.prod Uq .unit))))
abbrev yZ:A1:=[AUh]
abbrev AUi:Loc×Con:=(.cell 0 2,.dat Uq)
abbrev AUj:Loc×Con:=(.cell 0 0,.dat V1)
abbrev AUk:Loc×Con:=(.cell 0 1,.di)
abbrev pQ:A1:=[AUb,AUj,AUk,AUi,(.tmp 25,.dat V1),AZ,AY]
abbrev W6:BB:=[(.ret,[AJ]),(.exit 0,[])]
def pP[Lk]:(List U7×Int×List Bool×List U7×Int×Int×Unit)->Option ((List U7×Int×List Bool×List U7×Int×Int×Unit)⊕Uc⊕(Unit)⊕Unit):=fun(f,g,c,d,e,b,_)=>
 match(ilt b e)with
 |true=>match idx d b with|none=>none|some a=>match(ilt a.1 0)with
  |true=>some (.inr (.inl (false,())))
  |false=>match(ile a.2.1 a.1)with
  |true=>some (.inr (.inl (false,())))
  |false=>match(ilt (A2 c) a.2.1)with
  |true=>some (.inr (.inl (false,())))
  |false=>match(ilt a.2.2.1 (-1:Int))with
  |true=>some (.inr (.inl (false,())))
  |false=>match(ile b a.2.2.1)with
  |true=>some (.inr (.inl (false,())))
  |false=>match(ilt a.2.2.2.1 0)with
  |true=>some (.inr (.inl (false,())))
  |false=>match(ilt 2 a.2.2.2.1)with
  |true=>some (.inr (.inl (false,())))
  |false=>some (.inl (f,g,c,d,e,(w64 (b+1)),()))
 |false=>some (.inr (.inr (.inl ())))
def bH[Lk]:(((List U7)×Int×(List Bool)×Unit)×Unit)->Option (Uc):=fun(a,_)=>
 match NI ((A2 a.2.2.1),a.2.1,())with|none=>none|some (b,_)=>match(!b)with
 |true=>some (false,())
 |false=>match(ieq (A2 a.1) 0)with
 |true=>some (false,())
 |false=>match(ilt 2000 (A2 a.1))with
 |true=>some (false,())
 |false=>match A6 pP many (a.1,a.2.1,a.2.2.1,a.1,(A2 a.1),0,())with|none=>none|some r=>match r with
 |.inl (c,_)=>some (c,())
 |.inr r=>match r with
 |.inl _=>some (true,())
 |.inr _=>none
def UB[Lk]:=lkk bH
theorem pR v:UB v=bH v:=A0 _
abbrev J3:A1:=[AUh,AH]
def bG[Lk]:(((List U7)×Int×(List Bool)×Unit)×Int×Unit)->Option (U9):=fun(a,b,_)=>
 match UB ((a.1,(a.2.1,(a.2.2.1,()))),())with|none=>none|some (c,_)=>match(!c)with
 |true=>some (1,())
 |false=>match(ilt b 0)with
 |true=>some (6,())
 |false=>match(ile (A2 a.1) b)with
 |true=>some (6,())
 |false=>some (0,())
def PX[Lk]:=lkk bG
theorem pO v:PX v=bG v:=A0 _
abbrev yW:A1:=[(.tmp 0,.dat Ua)]
def bF[Lk]:(U7×Unit)->Option (U9):=fun(a,_)=>
 some ((w64 (a.2.1-a.1)),())
def NH[Lk]:=lkk bF
theorem pN v:NH v=bF v:=A0 _
def bI[Lk]:(((List U7)×Int×(List Bool)×Unit)×Int×Unit)->Option (Uc):=fun(a,c,_)=>
 match PX ((a.1,(a.2.1,(a.2.2.1,()))),c,())with|none=>none|some (d,_)=>match(ieq d 0)with
 |true=>match idx a.1 c with|none=>none|some b=>match NH ((b.1,(b.2.1,(b.2.2.1,(b.2.2.2.1,())))),())with|none=>none|some (e,_)=>some ((ilt a.2.1 e),())
 |false=>some (false,())
def UC[Lk]:=lkk bI
theorem pT v:UC v=bI v:=A0 _
abbrev AUl:Loc×Con:=(.tmp 2,.own 4 .bool)
abbrev AUm:Loc×Con:=(.tmp 0,.own 212 Ua)
abbrev ye:A1:=[AUm,AH,AUl,AT]
abbrev bJ:List RS:=[.agg 3,.one]
def bK[Lk]:U4->Option ((List U7×Int×List Bool×Int×Unit)):=fun(a,b,_)=>
 match NI (a,b,())with|none=>none|some (c,_)=>match(!c)with
 |true=>some (([]:List U7),0,([]:List (Bool)),1,())
 |false=>match(CC a&&CC a&&ile a a&&true)with
 |true=>some (([((0:Int),(a,((-1:Int),((0:Int),()))))]:List U7),b,(C5 (A3 a) false),(0:Int),())
 |false=>none
def dv[Lk]:=lkk bK
theorem pY v:dv v=bK v:=A0 _
abbrev AEH:A1:=[(.tmp 0,.dat V1),AH,(.tmp 2,.dat Uq),AT,AS,AF]
abbrev AEG:List RS:=[.agg 3,.one,.one,.one]
def jY[Lk]:(((List U7)×Int×(List Bool)×Unit)×Int×Unit)->Option ((List U7×Int×List Bool×Int×Int×Int×Unit)):=fun(b,c,_)=>
 match PX ((b.1,(b.2.1,(b.2.2.1,()))),c,())with|none=>none|some (f,_)=>match(!(ieq f 0))with
 |true=>some (b.1,b.2.1,b.2.2.1,0,0,f,())
 |false=>match idx b.1 c with|none=>none|some a=>match NH ((a.1,(a.2.1,(a.2.2.1,(a.2.2.2.1,())))),())with|none=>none|some (g,_)=>match(ile g b.2.1)with
 |true=>some (b.1,b.2.1,b.2.2.1,0,0,5,())
 |false=>match(ilt 0 a.2.2.2.1)with
 |true=>some (b.1,b.2.1,b.2.2.1,0,0,5,())
 |false=>match(ilt 2000 (w64 ((A2 b.1)+2)))with
 |true=>some (b.1,b.2.1,b.2.2.1,0,0,2,())
 |false=>match NH ((a.1,(a.2.1,(a.2.2.1,(a.2.2.2.1,())))),())with|none=>none|some (h,_)=>match quo? .i64 h 2 with|none=>none|some d=>match HR b.1 with|none=>none|some e=>match(fits ((A2 e)+(A2 ([(a.1,((w64 (a.1+d)),(c,(0,())))),((w64 (a.1+d)),(a.2.1,(c,(0,()))))]:List U7))))with
 |true=>match idx (Bk e ([(a.1,((w64 (a.1+d)),(c,(0,())))),((w64 (a.1+d)),(a.2.1,(c,(0,()))))]:List U7)) c with|none=>none|some i=>some ((Ba (Bk e ([(a.1,((w64 (a.1+d)),(c,(0,())))),((w64 (a.1+d)),(a.2.1,(c,(0,()))))]:List U7)) (A3 c) ((A5 (Bk e ([(a.1,((w64 (a.1+d)),(c,(0,())))),((w64 (a.1+d)),(a.2.1,(c,(0,()))))]:List U7)) (A3 c) (0,(0,(0,(0,()))))).1,((A5 (Bk e ([(a.1,((w64 (a.1+d)),(c,(0,())))),((w64 (a.1+d)),(a.2.1,(c,(0,()))))]:List U7)) (A3 c) (0,(0,(0,(0,()))))).2.1,((A5 (Bk e ([(a.1,((w64 (a.1+d)),(c,(0,())))),((w64 (a.1+d)),(a.2.1,(c,(0,()))))]:List U7)) (A3 c) (0,(0,(0,(0,()))))).2.2.1,(2,()))))),b.2.1,b.2.2.1,(A2 b.1),(w64 ((A2 b.1)+1)),0,())
 |false=>none
def pS[Lk]:=lkk jY
theorem yb v:pS v=jY v:=A0 _
abbrev pV:A1:=[AUm,AH]
abbrev AUn:Loc×Con:=(.obj 0,.own 212 Ua)
abbrev pU:A1:=[AUn,AE]
abbrev jb:A1:=[AUn,Aj,AH]
abbrev ja:BB:=[(.ret,[AUn,AG]),(.exit 0,[AUn])]
def jZ[Lk]:(List U7×Int×Unit)->Option ((List U7×Int×Unit)⊕(List U7×Bool×Unit)⊕(List U7×Unit)⊕Unit):=fun(b,a,_)=>
 match(!(ieq a (-1:Int)))with
 |true=>match idx b a with|none=>none|some c=>match(ieq (A5 b (A3 a) (0,(0,(0,(0,()))))).2.2.2.1 0)with
  |true=>some (.inr (.inl (b,false,())))
  |false=>match(ilt 0 (A5 (Ba b (A3 a) ((A5 b (A3 a) (0,(0,(0,(0,()))))).1,((A5 b (A3 a) (0,(0,(0,(0,()))))).2.1,((A5 b (A3 a) (0,(0,(0,(0,()))))).2.2.1,((w64 ((A5 b (A3 a) (0,(0,(0,(0,()))))).2.2.2.1-1)),()))))) (A3 a) (0,(0,(0,(0,()))))).2.2.2.1)with
  |true=>some (.inr (.inl ((Ba b (A3 a) ((A5 b (A3 a) (0,(0,(0,(0,()))))).1,((A5 b (A3 a) (0,(0,(0,(0,()))))).2.1,((A5 b (A3 a) (0,(0,(0,(0,()))))).2.2.1,((w64 ((A5 b (A3 a) (0,(0,(0,(0,()))))).2.2.2.1-1)),()))))),false,())))
  |false=>some (.inl ((Ba b (A3 a) ((A5 b (A3 a) (0,(0,(0,(0,()))))).1,((A5 b (A3 a) (0,(0,(0,(0,()))))).2.1,((A5 b (A3 a) (0,(0,(0,(0,()))))).2.2.1,((w64 ((A5 b (A3 a) (0,(0,(0,(0,()))))).2.2.2.1-1)),()))))),(A5 (Ba b (A3 a) ((A5 b (A3 a) (0,(0,(0,(0,()))))).1,((A5 b (A3 a) (0,(0,(0,(0,()))))).2.1,((A5 b (A3 a) (0,(0,(0,(0,()))))).2.2.1,((w64 ((A5 b (A3 a) (0,(0,(0,(0,()))))).2.2.2.1-1)),()))))) (A3 a) (0,(0,(0,(0,()))))).2.2.1,()))
 |false=>some (.inr (.inr (.inl (b,()))))
def W7[Lk]:(List U7×Int×Unit)->Option ((List U7×Bool×Unit)):=fun(a,b,_)=>
 match A6 jZ many (a,b,())with|none=>none|some r=>match r with
 |.inl (c,d,_)=>some (c,d,())
 |.inr r=>match r with
 |.inl (e,_)=>some (e,true,())
 |.inr _=>none
def W8[Lk]:=lkk W7
theorem jc v:W8 v=W7 v:=A0 _
abbrev AOQ:A1:=[(.tmp 0,.dat V1),AH,(.tmp 2,.dat Uq),(.tmp 3,.dat .bool),AS]
abbrev AEJ:List RS:=[.agg 3,.one,.one]
abbrev AUo:Loc×Con:=(.tmp 4,.box 3)
abbrev AUp:Loc×Con:=(.tmp 2,.box 3)
abbrev AKI:A1:=[AUp,(.cell 0 0,.own 212 Ua),AUk,(.cell 0 2,.own 4 .bool),AUo,(.cell 3 0,.nil Ua),(.cell 3 1,.di),(.cell 3 2,.nil .bool),(.tmp 8,.box 4),(.cell 4 0,.di),(.cell 4 1,.di),(.cell 4 2,.di),(.cell 4 3,.di),Ad]
abbrev AKH:BB:=[(.exit 0,[AUp,(.cell 0 0,.own 212 Ua),AUk,(.cell 0 2,.own 4 .bool),AUo,(.cell 3 0,.nil Ua),(.cell 3 1,.di),(.cell 3 2,.nil .bool),(.tmp 8,.box 4),(.cell 4 0,.di),(.cell 4 1,.di),(.cell 4 2,.di),(.cell 4 3,.di)])]
def AKG[Lk]:(List U7×Int×List Bool×Int×Int×Int×Int×Int×Int×Unit)->Option ((List U7×Int×List Bool×Int×Int×Int×Int×Int×Int×Unit)⊕(List U7×Int×List Bool×Int×Int×Int×Int×Int×Unit)⊕Unit):=fun(d,e,b,f,g,c,h,i,a,_)=>
 match(ilt a c)with
 |true=>match idx b a with|none=>none|some j=>some (.inl (d,e,(Ba b (A3 a) true),f,g,c,h,i,(w64 (a+1)),()))
 |false=>some (.inr (.inl (d,e,b,f,g,c,h,i,())))
def AEK[Lk]:(((List U7)×Int×(List Bool)×Unit)×Int×Unit)->Option ((List U7×Int×List Bool×Bool×Int×Unit)):=fun(a,c,_)=>
 match PX ((a.1,(a.2.1,(a.2.2.1,()))),c,())with|none=>none|some (d,_)=>match(!(ieq d 0))with
 |true=>some (a.1,a.2.1,a.2.2.1,false,d,())
 |false=>match idx a.1 c with|none=>none|some b=>match NH ((b.1,(b.2.1,(b.2.2.1,(b.2.2.2.1,())))),())with|none=>none|some (e,_)=>match(ilt a.2.1 e)with
 |true=>some (a.1,a.2.1,a.2.2.1,false,5,())
 |false=>match(ilt 0 b.2.2.2.1)with
 |true=>some (a.1,a.2.1,a.2.2.1,false,5,())
 |false=>match idx a.2.2.1 b.1 with|none=>none|some f=>match f with
 |true=>some (a.1,a.2.1,a.2.2.1,false,5,())
 |false=>match HR a.1 with|none=>none|some g=>match HR a.2.2.1 with|none=>none|some h=>match A6 AKG many (g,a.2.1,h,0,b.1,b.2.1,b.2.2.1,b.2.2.2.1,b.1,())with|none=>none|some r=>match r with
 |.inl (i,j,k,o,p,q,l,s,_)=>match W8 (i,l,())with|none=>none|some (m,n,_)=>some (m,j,k,n,0,())
 |.inr _=>none
def AOS[Lk]:=lkk AEK
theorem AKJ v:AOS v=AEK v:=A0 _
def Y5[Lk]:U9->Option (Uc):=fun(a,_)=>
 match(ile 0 a)with
 |true=>some ((ile a 100000),())
 |false=>some (false,())
def Qx[Lk]:=lkk Y5
theorem ny v:Qx v=Y5 v:=A0 _
def nu[Lk]:(((List U7)×Int×(List Bool)×Unit)×Int×Unit)->Option (Uc):=fun(a,b,_)=>
 match(ile 0 b)with
 |true=>match(ilt b (A2 a.1))with
  |true=>match idx a.1 b with|none=>none|some c=>match(ieq c.2.2.2.1 0)with
   |true=>match UC ((a.1,(a.2.1,(a.2.2.1,()))),b,())with|none=>none|some (d,_)=>match d with
    |true=>some (true,())
    |false=>match idx a.1 b with|none=>none|some e=>match idx a.2.2.1 e.1 with|none=>none|some f=>some ((!f),())
   |false=>some (false,())
  |false=>some (false,())
 |false=>some (false,())
def ug[Lk]:=lkk nu
theorem ADA v:ug v=nu v:=A0 _
abbrev AUq:Loc×Con:=(.tmp 0,.dat V6)
abbrev nR:A1:=[AUq]
abbrev AUr:Loc×Con:=(.cell 0 4,.dat .bool)
abbrev AUs:Loc×Con:=(.cell 0 3,.dat U8)
abbrev AUt:Loc×Con:=(.tmp 1,.box 7)
abbrev AUu:Loc×Con:=(.cell 0 5,.di)
abbrev AUv:Loc×Con:=(.cell 0 6,.di)
abbrev AUw:Loc×Con:=(.tmp 46,.di)
abbrev AUx:Loc×Con:=(.tmp 39,.di)
abbrev AUy:Loc×Con:=(.tmp 40,.di)
abbrev ACr:A1:=[AUt,AUj,AUk,AUi,AUs,AUr,AUu,AUv,Ac,(.tmp 38,.dat U8),AUx,AUy,(.tmp 44,.dat U5),AUf,AUw]
abbrev ACq:BB:=[(.ret,[AJ]),(.exit 2,[AUt,AUj,AUk,AUi,AUs,AUr,AUu,AUv,Ac,(.tmp 38,.dat U8),AUx,AUy])]
def ACo[Lk]:(List U7×Int×List Bool×List U6×Bool×Int×Int×List Um×List U6×Int×Int×List Int×Int×Int×Unit)->Option ((List U7×Int×List Bool×List U6×Bool×Int×Int×List Um×List U6×Int×Int×List Int×Int×Int×Unit)⊕Uc⊕V8⊕Unit):=fun(c,d,e,g,h,i,j,b,k,l,m,n,o,f,_)=>
 match(ilt f o)with
 |true=>match idx n f with|none=>none|some a=>match(ilt 1 ((A9 (BI b a (w64 (((A9 b a).getD 0)+1))) a).getD 0))with
  |true=>some (.inr (.inl (false,())))
  |false=>match ug ((c,(d,(e,()))),a,())with|none=>none|some (p,_)=>match(!p)with
  |true=>some (.inr (.inl (false,())))
  |false=>some (.inl (c,d,e,g,h,i,j,(BI b a (w64 (((A9 b a).getD 0)+1))),k,l,m,n,o,(w64 (f+1)),()))
 |false=>some (.inr (.inr (.inl (c,d,e,g,h,i,j,b,k,l,m,()))))
abbrev ACs:A1:=[AUt,AUj,AUk,AUi,AUs,AUr,AUu,AUv,Ac,(.tmp 38,.dat U8),AUx,AUy]
def ACp[Lk]:V8->Option (V8⊕Uc⊕(Unit)⊕Unit):=fun(e,f,g,h,i,j,k,l,b,c,a,_)=>
 match(ilt a c)with
 |true=>match idx b a with|none=>none|some d=>match A6 ACo many (e,f,g,h,i,j,k,l,b,c,a,d,(A2 d),0,())with|none=>none|some r=>match r with
  |.inl (m,_)=>some (.inr (.inl (m,())))
  |.inr r=>match r with
  |.inl (n,o,p,q,s,t,u,v,w,x,y,_)=>some (.inl (n,o,p,q,s,t,u,v,w,x,(w64 (y+1)),()))
  |.inr _=>none
 |false=>some (.inr (.inr (.inl ())))
def nS[Lk]:((((List U7)×Int×(List Bool)×Unit)×(List U6)×Bool×Int×Int×Unit)×Unit)->Option (Uc):=fun(a,_)=>
 match UB ((a.1.1,(a.1.2.1,(a.1.2.2.1,()))),())with|none=>none|some (b,_)=>match(!b)with
 |true=>some (false,())
 |false=>match(ieq (A2 a.2.1) 0)with
 |true=>some (false,())
 |false=>match(ilt 8 (A2 a.2.1))with
 |true=>some (false,())
 |false=>match Qx (a.2.2.2.1,())with|none=>none|some (c,_)=>match(!c)with
 |true=>some (false,())
 |false=>match Qx (a.2.2.2.2.1,())with|none=>none|some (d,_)=>match(!d)with
 |true=>some (false,())
 |false=>match A6 ACp many (a.1.1,a.1.2.1,a.1.2.2.1,a.2.1,a.2.2.1,a.2.2.2.1,a.2.2.2.2.1,([]:List Um),a.2.1,(A2 a.2.1),0,())with|none=>none|some r=>match r with
 |.inl (e,_)=>some (e,())
 |.inr r=>match r with
 |.inl _=>some (true,())
 |.inr _=>none
def uH[Lk]:=lkk nS
theorem ACt v:uH v=nS v:=A0 _
abbrev AJH:A1:=[AUm,AH,AUl,(.tmp 3,.own 36 U5),AG,AF,AUO,AQ]
abbrev AJG:List RS:=[.agg 7,.one]
def nz[Lk]:Ub->Option ((List U7×Int×List Bool×List U6×Bool×Int×Int×Int×Unit)):=fun(c,d,a,_)=>
 match(ilt a 1)with
 |true=>some (([]:List U7),0,([]:List (Bool)),([]:List U6),false,0,0,1,())
 |false=>match(ilt 8 a)with
 |true=>some (([]:List U7),0,([]:List (Bool)),([]:List U6),false,0,0,1,())
 |false=>match dv (c,d,())with|none=>none|some (e,f,g,b,_)=>match(!(ieq b 0))with
 |true=>some (([]:List U7),0,([]:List (Bool)),([]:List U6),false,0,0,b,())
 |false=>match(CC a&&CC a&&ile a a&&true)with
 |true=>match idx (C5 (A3 a) ()) (0:Int)with|none=>none|some h=>match(fits (A2 ([0]:List (Int))))with
  |true=>match idx (C5 (A3 a) ()) (0:Int)with|none=>none|some i=>some (e,f,g,(Ba (C5 (List.length (C5 (A3 a) ())) []) 0 ([(0:Int)]:List (Int))),false,(0:Int),(0:Int),(0:Int),())
  |false=>none
 |false=>none
def SZ[Lk]:=lkk nz
theorem ADE v:SZ v=nz v:=A0 _
abbrev AJA:A1:=[AI,(.tmp 6,.dat U8),AQ,AR]
abbrev AI9:BB:=[(.exit 0,[AI])]
def AI8[Lk]:(Int×List U6×Int×Int×Unit)->Option ((Int×List U6×Int×Int×Unit)⊕U9⊕Unit):=fun(b,c,d,a,_)=>
 match(ilt a d)with
 |true=>match idx c a with|none=>none|some e=>some (.inl ((w64 (b+(A2 e))),c,d,(w64 (a+1)),()))
 |false=>some (.inr (.inl (b,())))
def xV[Lk]:((((List U7)×Int×(List Bool)×Unit)×(List U6)×Bool×Int×Int×Unit)×Unit)->Option (U9):=fun(a,_)=>
 match A6 AI8 many (0,a.2.1,(A2 a.2.1),0,())with|none=>none|some r=>match r with
 |.inl (b,_)=>some (b,())
 |.inr _=>none
def AJC[Lk]:=lkk xV
theorem AJB v:AJC v=xV v:=A0 _
abbrev AUz:Loc×Con:=(.cell 0 10,.dat .bool)
abbrev AU0:Loc×Con:=(.cell 0 3,.own 36 U5)
abbrev AU1:Loc×Con:=(.cell 0 8,.di)
abbrev AU2:Loc×Con:=(.cell 0 9,.di)
abbrev AU3:Loc×Con:=(.cell 0 7,.di)
abbrev cz:A1:=[(.tmp 0,.box 11),AUj,AUk,AUi,AU0,AUr,AUu,AUv,AU3,AU1,AU2,AUz,AH]
abbrev AU4:Loc×Con:=(.obj 1,.own' 1)
abbrev cy:A1:=[(.obj 0,.box 11),AUj,AUk,AUi,AU0,AUr,AUu,AUv,AU3,AU1,AU2,AUz,AU4,AA]
def c6[Lk]:Uv->Option (Uv):=fun(b,c,d,a,e,f,g,h,i,j,k,l,_)=>
 match rem? l (A2 a)with|none=>none|some m=>match rem? (w64 (m+(A2 a))) (A2 a)with|none=>none|some n=>some (b,c,d,a,e,f,g,h,i,j,k,n,())
def VE[Lk]:=lkk c6
theorem uY v:VE v=c6 v:=A0 _
abbrev AJE:A1:=[(.tmp 0,.box 11),AUj,AUk,AUi,AU0,AUr,AUu,AUv,AU3,AU1,AU2,AUz,AH,AI]
abbrev AJD:A1:=[(.obj 0,.box 11),AUj,AUk,AUi,AU0,AUr,AUu,AUv,AU3,AU1,AU2,AUz,AU4,AE]
def nx[Lk]:(List U7×Int×List Bool×List U6×Bool×Int×Int×Int×Int×Int×Bool×Int×Int×Unit)->Option ((List U7×Int×List Bool×List U6×Bool×Int×Int×Int×Int×Int×Bool×Bool×Unit)):=fun(d,e,f,a,g,h,i,j,l,m,k,b,c,_)=>
 match idx a b with|none=>none|some r=>match idx a c with|none=>none|some s=>match(ile 0 (w64 ((A2 (A5 a (A3 b) ([]:List (Int))))-1)))with
 |true=>match idx (A5 a (A3 b) ([]:List (Int))) (w64 ((A2 (A5 a (A3 b) ([]:List (Int))))-1))with|none=>none|some n=>match(ieq (w64 ((A2 (A5 a (A3 b) ([]:List (Int))))-1)) (w64 ((A2 (A5 a (A3 b) ([]:List (Int))))-1)))with
  |true=>match D0 (A5 a (A3 b) ([]:List (Int))) 0 (w64 ((A2 (A5 a (A3 b) ([]:List (Int))))-1))with|none=>none|some o=>match idx a b with|none=>none|some t=>some (d,e,f,(Ba a (A3 b) o),g,h,i,j,b,n,k,true,())
  |false=>none
 |false=>match(ilt 0 (A2 (A5 a (A3 c) ([]:List (Int)))))with
 |true=>match idx (A5 a (A3 c) ([]:List (Int))) 0 with|none=>none|some p=>match D0 (A5 a (A3 c) ([]:List (Int))) 1 (A2 (A5 a (A3 c) ([]:List (Int))))with|none=>none|some q=>match idx a c with|none=>none|some u=>some (d,e,f,(Ba a (A3 c) q),g,h,i,j,c,p,k,true,())
 |false=>some (d,e,f,a,g,h,i,j,l,m,k,false,())
def uh[Lk]:=lkk nx
theorem ADD v:uh v=nx v:=A0 _
def AOA[Lk]:Uv->Option (Uv):=fun(h,i,j,a,k,d,e,f,g,b,l,c,_)=>
 match UC ((h,(i,(j,()))),b,())with|none=>none|some (w,_)=>match w with
 |true=>match pS ((h,(i,(j,()))),b,())with|none=>none|some (n,o,p,q,r,m,_)=>match(ieq m 0)with
  |true=>match idx a c with|none=>none|some y=>match(fits ((A2 (A5 a (A3 c) ([]:List (Int))))+(A2 ([r,q]:List (Int)))))with
   |true=>match idx a c with|none=>none|some z=>some (n,o,p,(Ba a (A3 c) (Bk (A5 a (A3 c) ([]:List (Int))) ([r,q]:List (Int)))),k,d,e,f,g,b,true,m,())
   |false=>none
  |false=>some (n,o,p,a,k,d,e,f,g,b,l,m,())
 |false=>match AOS ((h,(i,(j,()))),b,())with|none=>none|some (s,t,u,x,v,_)=>match k with
 |true=>some (s,t,u,a,true,d,e,f,g,b,l,v,())
 |false=>some (s,t,u,a,x,d,e,f,g,b,l,v,())
def cgo[Lk]:=lkk AOA
theorem AP4 v:cgo v=AOA v:=A0 _
abbrev ANJ:A1:=[AUq,AH,AI]
abbrev ANI:A1:=[(.tmp 0,.dat V1),AH,(.tmp 2,.dat Uq),(.tmp 3,.dat U8),AG,AF,AUO,(.tmp 7,.dat U1),AR]
abbrev ANH:List RS:=[.agg 7,.one,.one]
def xT[Lk]:((((List U7)×Int×(List Bool)×Unit)×(List U6)×Bool×Int×Int×Unit)×Int×Int×Unit)->Option ((List U7×Int×List Bool×List U6×Bool×Int×Int×U2×Int×Unit)):=fun(a,o,p,_)=>
 match uH (((a.1.1,(a.1.2.1,(a.1.2.2.1,()))),(a.2.1,(a.2.2.1,(a.2.2.2.1,(a.2.2.2.2.1,()))))),())with|none=>none|some (q,_)=>match(!q)with
 |true=>some (a.1.1,a.1.2.1,a.1.2.2.1,a.2.1,a.2.2.1,a.2.2.2.1,a.2.2.2.2.1,(0,(0,(0,(false,())))),1,())
 |false=>match(ieq a.2.2.2.1 100000)with
 |true=>some (a.1.1,a.1.2.1,a.1.2.2.1,a.2.1,a.2.2.1,a.2.2.2.1,a.2.2.2.2.1,(0,(0,(0,(false,())))),2,())
 |false=>match HR a.2.1 with|none=>none|some r=>match VE (a.1.1,a.1.2.1,a.1.2.2.1,r,a.2.2.1,a.2.2.2.1,a.2.2.2.2.1,0,(-1:Int),(-1:Int),false,o,())with|none=>none|some (s,t,u,v,w,x,y,z,A,B,C,b,_)=>match VE (s,t,u,v,w,x,y,z,A,B,C,p,())with|none=>none|some (D,E,F,G,H,I,J,y21,K,L,M,N,_)=>match uh (D,E,F,G,H,(w64 (I+1)),J,b,K,L,M,b,N,())with|none=>none|some (d,e,f,g,h,i,c,j,k,l,m,O,_)=>match O with
 |true=>match cgo (d,e,f,g,h,i,c,j,k,l,m,b,())with|none=>none|some (P,Q,R,S,T,U,V,W,X,Y,Z,n,_)=>match(!(ieq n 0))with
  |true=>some (a.1.1,a.1.2.1,a.1.2.2.1,a.2.1,a.2.2.1,a.2.2.2.1,a.2.2.2.2.1,(0,(0,(0,(false,())))),n,())
  |false=>some (P,Q,R,S,T,U,V,(W,(X,(Y,(Z,())))),0,())
 |false=>match(ieq c 100000)with
 |true=>some (a.1.1,a.1.2.1,a.1.2.2.1,a.2.1,a.2.2.1,a.2.2.2.1,a.2.2.2.2.1,(0,(0,(0,(false,())))),2,())
 |false=>some (d,e,f,g,h,i,(w64 (c+1)),(j,(k,(l,(m,())))),0,())
def AIq[Lk]:=lkk xT
theorem AIp v:AIq v=xT v:=A0 _
abbrev AU5:Loc×Con:=(.cell 0 7,.own 278 U1)
abbrev AM9:A1:=[(.tmp 0,.box 8),AUj,AUk,AUi,AUs,AUr,AUu,AUv,AU5,AH,AI]
abbrev AU6:Loc×Con:=(.obj 0,.box 8)
abbrev xJ:A1:=[AU6,AUj,AUk,AUi,AUs,AUr,AUu,AUv,AU5,AA]
def xK[Lk]:(List U7×Int×List Bool×List U6×Bool×Int×Int×List U2×Int×Int×Unit)->Option (Uh):=fun(d,e,f,g,h,i,j,b,k,l,_)=>
 match AIq (((d,(e,(f,()))),(g,(h,(i,(j,()))))),k,l,())with|none=>none|some (m,n,o,p,q,r,s,a,c,_)=>match(ieq c 0)with
 |true=>match(fits ((A2 b)+(A2 ([(a.1,(a.2.1,(a.2.2.1,(a.2.2.2.1,()))))]:List U2))))with
  |true=>some (m,n,o,p,q,r,s,(Bk b ([(a.1,(a.2.1,(a.2.2.1,(a.2.2.2.1,()))))]:List U2)),c,())
  |false=>none
 |false=>some (d,e,f,g,h,i,j,b,c,())
def xL[Lk]:=lkk xK
theorem AIZ v:xL v=xK v:=A0 _
abbrev ACT:A1:=[(.tmp 0,.box 8),AUj,AUk,AUi,AUs,AUr,AUu,AUv,AU5]
abbrev AU7:Loc×Con:=(.tmp 0,.ptr' 0 0)
abbrev AU8:Loc×Con:=(.tmp 14,.di)
abbrev te:A1:=[AU6,AUj,AUk,AUi,AUs,AUr,AUu,AUv,AU5,AU7,AT,AO,AU8]
abbrev tZ:BB:=[(.ret,[AU6,AUj,AUk,AUi,AUs,AUr,AUu,AUv,AU5,AI]),(.exit 2,[AU6,AUj,AUk,AUi,AUs,AUr,AUu,AUv,AU5,AU7,AT])]
def tX[Lk]:(List U7×Int×List Bool×List U6×Bool×Int×Int×List U2×Int×Int×Int×Unit)->Option ((List U7×Int×List Bool×List U6×Bool×Int×Int×List U2×Int×Int×Int×Unit)⊕Uh⊕Uh⊕Unit):=fun(b,c,d,e,a,f,g,h,j,k,i,_)=>
 match(ilt i k)with
 |true=>match a with
  |true=>some (.inr (.inl (b,c,d,e,a,f,g,h,0,())))
  |false=>match AJC (((b,(c,(d,()))),(e,(a,(f,(g,()))))),())with|none=>none|some (u,_)=>match(ieq u 0)with
  |true=>some (.inr (.inl (b,c,d,e,a,f,g,h,4,())))
  |false=>match xL (b,c,d,e,a,f,g,h,i,(w64 ((w64 (i+1))+j)),())with|none=>none|some (l,m,n,o,p,q,r,s,t,_)=>match(!(ieq t 0))with
  |true=>some (.inr (.inl (l,m,n,o,p,q,r,s,t,())))
  |false=>some (.inl (l,m,n,o,p,q,r,s,j,k,(w64 (i+1)),()))
 |false=>some (.inr (.inr (.inl (b,c,d,e,a,f,g,h,j,()))))
abbrev tf:A1:=[AU6,AUj,AUk,AUi,AUs,AUr,AUu,AUv,AU5,AU7,AT]
abbrev tc:BB:=[(.ret,[AU6,AUj,AUk,AUi,AUs,AUr,AUu,AUv,AU5,AI])]
def tY[Lk]:Uh->Option (Uh⊕Uh⊕Unit):=fun(b,c,d,a,e,f,g,h,i,_)=>
 match A6 tX many (b,c,d,a,e,f,g,h,i,(A2 a),0,())with|none=>none|some r=>match r with
 |.inl (j,k,l,m,n,o,p,q,s,_)=>some (.inr (.inl (j,k,l,m,n,o,p,q,s,())))
 |.inr r=>match r with
 |.inl (t,u,v,w,x,y,z,A,B,_)=>some (.inl (t,u,v,w,x,y,z,A,(w64 (B+1)),()))
 |.inr _=>none
def cf[Lk]:(List U7×Int×List Bool×List U6×Bool×Int×Int×List U2×Unit)->Option (Uh):=fun(a,b,c,d,e,f,g,h,_)=>
 match A6 tY many (a,b,c,d,e,f,g,h,0,())with|none=>none|some r=>match r with
 |.inl (i,j,k,l,m,n,o,p,q,_)=>some (i,j,k,l,m,n,o,p,q,())
 |.inr _=>none
def gW[Lk]:=lkk cf
theorem tg v:gW v=cf v:=A0 _
abbrev AIX:A1:=[AA,AH,AI,(.tmp 3,.dat (.slice (.arr 2 U0)))]
abbrev AIW:A1:=[AUq,(.tmp 1,.own 278 U1),AI]
abbrev D5:List RS:=[.one,.one,.one]
abbrev AU9:Loc×Con:=(.cell 0 2,.nil .bool)
abbrev AVA:Loc×Con:=(.cell 1 1,.di)
abbrev ACR:A1:=[(.tmp 8,.box 7),(.cell 0 0,.nil Ua),AUk,AU9,(.cell 0 3,.nil U5),AUr,AUu,AUv,(.tmp 13,.box 8),(.cell 1 0,.dat V1),AVA,(.cell 1 2,.dat Uq),(.cell 1 3,.dat U8),(.cell 1 4,.dat .bool),(.cell 1 5,.di),(.cell 1 6,.di),(.cell 1 7,.own 278 U1),(.tmp 31,.dat (.slice (.arr 2 U0))),(.tmp 32,.di),(.tmp 33,.di)]
abbrev ACQ:BB:=[(.exit 0,[(.tmp 8,.box 7),(.cell 0 0,.nil Ua),AUk,AU9,(.cell 0 3,.nil U5),AUr,AUu,AUv,(.tmp 13,.box 8),(.cell 1 0,.dat V1),AVA,(.cell 1 2,.dat Uq),(.cell 1 3,.dat U8),(.cell 1 4,.dat .bool),(.cell 1 5,.di),(.cell 1 6,.di),(.cell 1 7,.own 278 U1)]),(.ret,[(.tmp 8,.box 7),AUj,AUk,AUi,AUs,AUr,AUu,AUv,(.tmp 9,.own 278 U1),Aa])]
def ACP[Lk]:Vn->Option (Vn⊕(Int×Bool×Int×Int×List U7×Int×List Bool×List U6×Bool×Int×Int×List U2×Unit)⊕Uh⊕Unit):=fun(b,c,d,e,f,g,h,i,a,j,k,l,n,o,m,_)=>
 match(ilt m o)with
 |true=>match idx n m with|none=>none|some p=>match a with
  |true=>some (.inr (.inl (b,c,d,e,f,g,h,i,a,j,k,l,())))
  |false=>match xL (f,g,h,i,a,j,k,l,(A5 p 0 0),(A5 p 1 0),())with|none=>none|some (q,r,s,t,u,v,w,x,y,_)=>match(!(ieq y 0))with
  |true=>some (.inr (.inr (.inl (q,r,s,t,u,v,w,x,y,()))))
  |false=>some (.inl (b,c,d,e,q,r,s,t,u,v,w,x,n,o,(w64 (m+1)),()))
 |false=>some (.inr (.inl (b,c,d,e,f,g,h,i,a,j,k,l,())))
def nL[Lk]:(Int×Int×Int×List U6×Unit)->Option (((((List U7)×Int×(List Bool)×Unit)×(List U6)×Bool×Int×Int×Unit)×List U2×Int×Unit)):=fun(c,d,e,a,_)=>
 match SZ (c,d,e,())with|none=>none|some (f,g,h,i,j,k,l,b,_)=>match(!(ieq b 0))with
 |true=>some (((([]:List U7),(0,(([]:List (Bool)),()))),(([]:List U6),(false,(0,(0,()))))),([]:List U2),b,())
 |false=>match A6 ACP many (0,false,0,0,f,g,h,i,j,k,l,([]:List U2),a,(A2 a),0,())with|none=>none|some r=>match r with
 |.inl (N,O,P,Q,m,n,o,p,q,s,t,u,_)=>match gW (m,n,o,p,q,s,t,u,())with|none=>none|some (v,w,x,y,z,A,B,C,D,_)=>some (((v,(w,(x,()))),(y,(z,(A,(B,()))))),C,D,())
 |.inr r=>match r with
 |.inl (E,F,G,H,I,J,K,L,M,_)=>some (((E,(F,(G,()))),(H,(I,(J,(K,()))))),L,M,())
 |.inr _=>none
def tW[Lk]:=lkk nL
theorem ACS v:tW v=nL v:=A0 _
abbrev AVB:Loc×Con:=(.tmp 1,.dat Ui)
abbrev ACW:A1:=[AUq,AVB]
abbrev ACV:A1:=[(.tmp 0,.own 206 U3)]
abbrev tq:A1:=[(.tmp 2,.box 7),AUj,AUk,AUi,AUs,AUr,AUu,AUv,(.tmp 5,.own 206 U3),(.tmp 9,.dat Ui),Aa,Ab]
abbrev tp:BB:=[(.exit 0,[(.tmp 5,.own 206 U3)])]
def tn[Lk]:(List U7×Int×List Bool×List U6×Bool×Int×Int×List U4×List U2×Int×Int×Unit)->Option ((List U7×Int×List Bool×List U6×Bool×Int×Int×List U4×List U2×Int×Int×Unit)⊕V7⊕Unit):=fun(a,f,g,h,i,j,k,b,d,e,c,_)=>
 match(ilt c e)with
 |true=>match idx d c with|none=>none|some l=>match l.2.2.2.1 with
  |true=>some (.inl (a,f,g,h,i,j,k,b,d,e,(w64 (c+1)),()))
  |false=>match(ilt l.2.2.1 0)with
  |true=>some (.inl (a,f,g,h,i,j,k,b,d,e,(w64 (c+1)),()))
  |false=>match(ile (A2 a) l.2.2.1)with
  |true=>some (.inl (a,f,g,h,i,j,k,b,d,e,(w64 (c+1)),()))
  |false=>match idx a l.2.2.1 with|none=>none|some m=>match(fits ((A2 b)+(A2 ([(m.1,(m.2.1,()))]:List U4))))with
  |true=>some (.inl (a,f,g,h,i,j,k,(Bk b ([(m.1,(m.2.1,()))]:List U4)),d,e,(w64 (c+1)),()))
  |false=>none
 |false=>some (.inr (.inl (b,())))
def cg[Lk]:((((List U7)×Int×(List Bool)×Unit)×(List U6)×Bool×Int×Int×Unit)×List U2×Unit)->Option (V7):=fun(a,b,_)=>
 match A6 tn many (a.1.1,a.1.2.1,a.1.2.2.1,a.2.1,a.2.2.1,a.2.2.2.1,a.2.2.2.2.1,([]:List U4),b,(A2 b),0,())with|none=>none|some r=>match r with
 |.inl (c,_)=>some (c,())
 |.inr _=>none
def gY[Lk]:=lkk cg
theorem tr v:gY v=cg v:=A0 _
abbrev AH9:A1:=[(.tmp 0,.dat Ul)]
def mq[Lk]:(Us×Unit)->Option (Uc):=fun(a,_)=>
 match(ile 1 a.1)with
 |true=>match(ile a.1 100)with
  |true=>match(ile 1 a.2.1)with
   |true=>match(ile a.2.1 8)with
    |true=>some ((ile (A2 a.2.2.1) 4000),())
    |false=>some (false,())
   |false=>some (false,())
  |false=>some (false,())
 |false=>some (false,())
def tG[Lk]:=lkk mq
theorem ABz v:tG v=mq v:=A0 _
abbrev AIB:A1:=[AA,(.tmp 1,.dat Ul)]
abbrev ER:A1:=[AU,AH,AI]
abbrev AVC:Loc×Con:=(.tmp 44,.own 206 U3)
abbrev AVD:Loc×Con:=(.tmp 8,.own 278 U1)
abbrev AVE:Loc×Con:=(.tmp 10,.own 3 U0)
abbrev AVF:Loc×Con:=(.cell 2 1,.di)
abbrev AVG:Loc×Con:=(.cell 2 0,.di)
abbrev AB4:A1:=[AVD,AVE,(.tmp 12,.box 2),AVG,AVF,AVC,AUf,AUw,(.tmp 54,.di),(.tmp 55,.di)]
abbrev AB2:BB:=[(.exit 2,[AVD,AVE,AVC,AUf,AUw])]
def AB0[Lk]:(List U2×List Int×Int×Int×List U4×Int×Int×Int×Int×Unit)->Option ((List U2×List Int×Int×Int×List U4×Int×Int×Int×Int×Unit)⊕(List U2×List Int×List U4×Int×Int×Unit)⊕Unit):=fun(d,b,c,i,e,f,g,h,a,_)=>
 match(ilt a h)with
 |true=>match(fits ((A2 b)+(A2 ([(w64 (c+a))]:List (Int)))))with
  |true=>some (.inl (d,(Bk b ([(w64 (c+a))]:List (Int))),c,i,e,f,g,h,(w64 (a+1)),()))
  |false=>none
 |false=>some (.inr (.inl (d,b,e,f,g,())))
abbrev AB5:A1:=[AVD,AVE,AVC,AUf,AUw]
abbrev AB3:BB:=[(.exit 0,[AVD,AVE])]
def AB1[Lk]:(List U2×List Int×List U4×Int×Int×Unit)->Option ((List U2×List Int×List U4×Int×Int×Unit)⊕(List U2×List Int×Unit)⊕Unit):=fun(c,d,b,e,a,_)=>
 match(ilt a e)with
 |true=>match idx b a with|none=>none|some k=>match A6 AB0 many (c,d,(A5 b (A3 a) (0,(0,()))).1,(A5 b (A3 a) (0,(0,()))).2.1,b,e,a,(w64 ((A5 b (A3 a) (0,(0,()))).2.1-(A5 b (A3 a) (0,(0,()))).1)),0,())with|none=>none|some r=>match r with
  |.inl (f,g,h,i,j,_)=>some (.inl (f,g,h,i,(w64 (j+1)),()))
  |.inr _=>none
 |false=>some (.inr (.inl (c,d,())))
def mu[Lk]:(Int×Us×Unit)->Option (Uf):=fun(c,b,_)=>
 match(ilt c 0)with
 |true=>some (([]:List (Int)),0,1,())
 |false=>match(ilt 1000 c)with
 |true=>some (([]:List (Int)),0,1,())
 |false=>match tG ((b.1,(b.2.1,(b.2.2.1,()))),())with|none=>none|some (g,_)=>match(!g)with
 |true=>some (([]:List (Int)),0,1,())
 |false=>match(ieq c 0)with
 |true=>some (([]:List (Int)),0,0,())
 |false=>match tW (c,b.1,b.2.1,b.2.2.1,())with|none=>none|some (a,d,e,_)=>match(!(ieq e 0))with
 |true=>some (([]:List (Int)),0,e,())
 |false=>match gY (((a.1.1,(a.1.2.1,(a.1.2.2.1,()))),(a.2.1,(a.2.2.1,(a.2.2.2.1,(a.2.2.2.2.1,()))))),d,())with|none=>none|some (f,_)=>match A6 AB1 many (d,([]:List (Int)),f,(A2 f),0,())with|none=>none|some r=>match r with
 |.inl (h,i,_)=>some (i,(A2 h),0,())
 |.inr _=>none
def O1[Lk]:=lkk mu
theorem AB6 v:O1 v=mu v:=A0 _
def jo[Lk]:U9->Option (Uc):=fun(a,_)=>
 match(ile 1 a)with
 |true=>some ((ile a 100),())
 |false=>some (false,())
def eB[Lk]:=lkk jo
theorem yi v:eB v=jo v:=A0 _
def bg[Lk]:U4->Option (U9):=fun(a,b,_)=>
 match(ilt a 0)with
 |true=>some (0,())
 |false=>match(ilt 1000 a)with
 |true=>some (0,())
 |false=>match eB (b,())with|none=>none|some (c,_)=>match(!c)with
 |true=>some (0,())
 |false=>match quo? .i64 (w64 ((w64 (a+b))-1)) b with|none=>none|some d=>some (d,())
def eV[Lk]:=lkk bg
theorem qI v:eV v=bg v:=A0 _
abbrev AKT:A1:=[AUS,AH,AI]
def vX[Lk]:Uf->Option (Ue):=fun(a,b,c,_)=>
 match D0 a (w64 (b*c)) (Cn (A2 a) (w64 ((w64 (b+1))*c)))with|none=>none|some d=>some (d,())
def vY[Lk]:=lkk vX
theorem AEd v:vY v=vX v:=A0 _
abbrev AFA:A1:=[AUS,(.tmp 1,.clo 327 [])]
abbrev AVH:Loc×Con:=(.tmp 0,.own 96 Ug)
abbrev AE9:A1:=[AVH,(.tmp 1,.dat Ug)]
abbrev AVI:Loc×Con:=(.tmp 6,.own 96 Ug)
abbrev AVJ:Loc×Con:=(.tmp 15,.di)
abbrev zP:A1:=[(.tmp 1,.clo 327 []),AVI,(.tmp 7,.dat Ug),(.tmp 13,.dat Uy),AU8,AVJ]
abbrev zO:BB:=[(.exit 0,[AVI,(.tmp 7,.dat Ug)])]
def zN[Lk]:(List Int×Int×List Int×Int×Int×Unit)->Option ((List Int×Int×List Int×Int×Int×Unit)⊕Uj⊕Unit):=fun(b,c,d,e,a,_)=>
 match(ilt a e)with
 |true=>match idx d a with|none=>none|some f=>match idx b a with|none=>none|some g=>some (.inl ((Ba b (A3 a) c),(IntKind.wrap .u32 (c+f)),d,e,(w64 (a+1)),()))
 |false=>some (.inr (.inl (b,c,())))
def kF[Lk]:Ue->Option (Uj):=fun(a,_)=>
 match(CC (A2 a)&&CC (A2 a)&&ile (A2 a) (A2 a)&&true)with
 |true=>match A6 zN many ((C5 (A3 (A2 a)) (0:Int)),(0:Int),a,(A2 a),(0:Int),())with|none=>none|some r=>match r with
  |.inl (b,c,_)=>some (b,c,())
  |.inr _=>none
 |false=>none
def XY[Lk]:=lkk kF
theorem zQ v:XY v=kF v:=A0 _
abbrev AVK:Loc×Con:=(.tmp 3,.clo 327 [])
abbrev yj:A1:=[AUS,AH,(.tmp 2,.dat Ul),AVK]
abbrev bQ:A1:=[AVH,(.tmp 1,.dat Ug),AI,AT]
abbrev AVL:Loc×Con:=(.tmp 17,.own 96 Ug)
abbrev AVM:Loc×Con:=(.tmp 76,.own 3 U0)
abbrev AVN:Loc×Con:=(.tmp 8,.own 96 Ug)
abbrev AVO:Loc×Con:=(.tmp 9,.dat Ug)
abbrev AVP:Loc×Con:=(.tmp 78,.di)
abbrev AVQ:Loc×Con:=(.tmp 19,.di)
abbrev p7:A1:=[AUS,AH,AVK,AVN,AVO,Aa,AVL,AVQ,AVM,(.tmp 77,.di),AVP,(.tmp 91,.own 96 Ug),(.tmp 92,.di),(.tmp 93,.di)]
abbrev px:BB:=[(.exit 4,[AUS,AH,AVK,AVN,AVO,Aa,AVL,AVM,(.tmp 77,.di),AVP])]
def pq[Lk]:(List Int×Int×List Int×Int×Int×List Int×Int×List Int×Int×Int×List Int×Int×Int×Unit)->Option ((List Int×Int×List Int×Int×Int×List Int×Int×List Int×Int×Int×List Int×Int×Int×Unit)⊕Vg⊕Unit):=fun(g,c,e,h,i,d,b,j,k,l,f,m,a,_)=>
 match(ilt a m)with
 |true=>match idx f a with|none=>none|some n=>match idx d b with|none=>none|some o=>match idx e (w64 ((w64 (b*c))+a))with|none=>none|some p=>some (.inl (g,c,(Ba e (A3 (w64 ((w64 (b*c))+a))) (IntKind.wrap .u32 ((A5 d (A3 b) 0)+(A5 f (A3 a) 0)))),h,i,d,b,j,k,l,f,m,(w64 (a+1)),()))
 |false=>some (.inr (.inl (g,c,e,h,i,d,j,k,l,())))
abbrev p8:A1:=[AUS,AH,AVK,AVN,AVO,Aa,AVL,AVM,(.tmp 77,.di),AVP]
abbrev py:BB:=[(.exit 2,[AVN,AVO,Aa])]
def pr[Lk]:Vg->Option (Vg⊕Uf⊕Unit):=fun(c,d,e,f,g,j,b,h,a,_)=>
 match(ilt a h)with
 |true=>match idx b a with|none=>none|some v=>match vY (c,(A5 b (A3 a) 0),d,())with|none=>none|some (k,_)=>match XY (k,())with|none=>none|some (i,w,_)=>match A6 pq many (c,d,e,f,g,j,(A5 b (A3 a) 0),b,h,a,i,(A2 i),0,())with|none=>none|some r=>match r with
  |.inl (l,m,n,o,p,q,s,t,u,_)=>some (.inl (l,m,n,o,p,q,s,t,(w64 (u+1)),()))
  |.inr _=>none
 |false=>some (.inr (.inl (e,f,g,())))
abbrev p9:A1:=[AUS,AH,AVK,Aa,AUd,(.tmp 14,.own 96 Ug),(.tmp 48,.own' 0),(.tmp 49,.di),(.tmp 50,.di)]
abbrev pz:BB:=[(.exit 0,[AUS,AH,AVK,Aa,AUd,(.tmp 14,.own 96 Ug)])]
def pw[Lk]:(List Int×Int×Int×List Int×List Int×Int×Int×Unit)->Option ((List Int×Int×Int×List Int×List Int×Int×Int×Unit)⊕(List Int×Int×Int×List Int×List Int×Unit)⊕Unit):=fun(c,d,f,a,e,g,b,_)=>
 match(ilt b g)with
 |true=>match idx a b with|none=>none|some j=>match vY (c,(A5 a (A3 b) 0),d,())with|none=>none|some (h,_)=>match XY (h,())with|none=>none|some (k,i,_)=>match idx e (A5 a (A3 b) 0)with|none=>none|some l=>some (.inl (c,d,f,a,(Ba e (A3 (A5 a (A3 b) 0)) i),g,(w64 (b+1)),()))
 |false=>some (.inr (.inl (c,d,f,a,e,())))
def bR[Lk]:(List Int×Int×Us×Unit)->Option ((List Int×Int×Int×Int×Unit)):=fun(c,d,e,_)=>
 match eB (d,())with|none=>none|some (i,_)=>match(!i)with
 |true=>some (([]:List (Int)),0,0,1,())
 |false=>match(ilt 1000 (A2 c))with
 |true=>some (([]:List (Int)),0,0,1,())
 |false=>match eV ((A2 c),d,())with|none=>none|some (a,_)=>match O1 (a,(e.1,(e.2.1,(e.2.2.1,()))),())with|none=>none|some (f,j,g,_)=>match(!(ieq g 0))with
 |true=>some (([]:List (Int)),0,0,g,())
 |false=>match(CC a&&CC a&&ile a a&&true)with
 |true=>match A6 pw many (c,d,j,f,(C5 (A3 a) (0:Int)),(A2 f),(0:Int),())with|none=>none|some r=>match r with
  |.inl (b,k,l,h,m,_)=>match XY (m,())with|none=>none|some (n,o,_)=>match(CC (A2 b)&&CC (A2 b)&&ile (A2 b) (A2 b)&&true)with
   |true=>match A6 pr many (b,k,(C5 (A3 (A2 b)) (0:Int)),o,l,n,h,(A2 h),(0:Int),())with|none=>none|some r=>match r with
    |.inl (p,q,s,_)=>some (p,q,(w64 (2*s)),0,())
    |.inr _=>none
   |false=>none
  |.inr _=>none
 |false=>none
def eD[Lk]:=lkk bR
theorem qA v:eD v=bR v:=A0 _
abbrev vU:A1:=[AUS,AH,(.tmp 2,.dat Ul)]
def vV[Lk]:(List Int×Int×Us×Unit)->Option ((List Int×Int×Int×Int×Unit)):=fun(b,c,a,_)=>
 match eD (b,c,(a.1,(a.2.1,(a.2.2.1,()))),())with|none=>none|some (d,e,f,g,_)=>some (d,e,f,g,())
def vW[Lk]:=lkk vV
theorem AEX v:vW v=vV v:=A0 _
abbrev AFy:A1:=[(.tmp 0,.dat Uq),As]
abbrev AFx:A1:=[AVH]
abbrev zw:A1:=[As,(.tmp 5,.own 96 Ug),(.tmp 11,.dat Uq),AP,AO]
abbrev zv:BB:=[(.exit 0,[(.tmp 5,.own 96 Ug)])]
def zu[Lk]:(Bool×List Int×List Bool×Int×Int×Unit)->Option ((Bool×List Int×List Bool×Int×Int×Unit)⊕Ue⊕Unit):=fun(c,b,d,e,a,_)=>
 match(ilt a e)with
 |true=>match idx d a with|none=>none|some f=>match(!(f==c))with
  |true=>match idx b a with|none=>none|some g=>some (.inl (c,(Ba b (A3 a) 1),d,e,(w64 (a+1)),()))
  |false=>some (.inl (c,b,d,e,(w64 (a+1)),()))
 |false=>some (.inr (.inl (b,())))
def kg[Lk]:(List Bool×Bool×Unit)->Option (Ue):=fun(a,b,_)=>
 match(CC (A2 a)&&CC (A2 a)&&ile (A2 a) (A2 a)&&true)with
 |true=>match A6 zu many (b,(C5 (A3 (A2 a)) (0:Int)),a,(A2 a),(0:Int),())with|none=>none|some r=>match r with
  |.inl (c,_)=>some (c,())
  |.inr _=>none
 |false=>none
def qu[Lk]:=lkk kg
theorem zx v:qu v=kg v:=A0 _
abbrev qq:A1:=[AUS,(.tmp 9,.own 96 Ug),Ab,AU8,(.tmp 15,.own 3 U0),(.tmp 43,.own 3 U0),(.tmp 44,.di),AUf]
abbrev qp:BB:=[(.exit 0,[Ab,AU8,(.tmp 15,.own 3 U0)])]
def qo[Lk]:V3->Option (V3⊕(Int×Int×List Int×Unit)⊕Unit):=fun(e,c,f,g,d,b,h,a,_)=>
 match(ilt a h)with
 |true=>match idx b a with|none=>none|some j=>match idx e (A5 b (A3 a) 0)with|none=>none|some i=>match(ieq i 1)with
  |true=>match idx c (A5 b (A3 a) 0)with|none=>none|some k=>match idx d (A5 c (A3 (A5 b (A3 a) 0)) 0)with|none=>none|some l=>some (.inl (e,c,f,g,(Ba d (A3 (A5 c (A3 (A5 b (A3 a) 0)) 0)) (A5 b (A3 a) 0)),b,h,(w64 (a+1)),()))
  |false=>some (.inl (e,c,f,g,d,b,h,(w64 (a+1)),()))
 |false=>some (.inr (.inl (f,g,d,())))
def bz[Lk]:(List Int×Int×Us×Unit)->Option (Uf):=fun(c,g,a,_)=>
 match vW (c,g,(a.1,(a.2.1,(a.2.2.1,()))),())with|none=>none|some (h,b,i,d,_)=>match(!(ieq d 0))with
 |true=>some (([]:List (Int)),0,d,())
 |false=>match O1 ((A2 c),(a.1,(a.2.1,(a.2.2.1,()))),())with|none=>none|some (e,j,f,_)=>match(!(ieq f 0))with
 |true=>some (([]:List (Int)),0,f,())
 |false=>match(CC b&&CC b&&ile b b&&true)with
 |true=>match A6 qo many (c,h,i,j,(C5 (A3 b) (0:Int)),e,(A2 e),(0:Int),())with|none=>none|some r=>match r with
  |.inl (k,l,m,_)=>some (m,(w64 (k+l)),0,())
  |.inr _=>none
 |false=>none
def ek[Lk]:=lkk bz
theorem qt v:ek v=bz v:=A0 _
abbrev AFc:A1:=[(.tmp 0,.dat Uq),AH,(.tmp 2,.dat Ul)]
def kU[Lk]:(List Bool×Int×Us×Unit)->Option (Uf):=fun(b,c,a,_)=>
 match qu (b,false,())with|none=>none|some (d,_)=>match ek (d,c,(a.1,(a.2.1,(a.2.2.1,()))),())with|none=>none|some (e,f,g,_)=>some (e,f,g,())
def ql[Lk]:=lkk kU
theorem zi v:ql v=kU v:=A0 _
abbrev AKw:A1:=[AUS,AH,AI,(.tmp 3,.dat Ul)]
abbrev AVR:Loc×Con:=(.tmp 16,.own 3 U0)
abbrev AFJ:A1:=[AUS,AH,Ab,AU8,AVR,AUf,AUw]
abbrev AFH:BB:=[(.exit 2,[Ab,AU8,AVR])]
def AFF[Lk]:Vb->Option (Vb⊕(Int×Int×List Int×Unit)⊕Unit):=fun(b,c,d,e,f,g,a,_)=>
 match(ilt a g)with
 |true=>match rby (b,f,a,c,())with|none=>none|some (h,_)=>some (.inl (b,c,d,e,h,g,(w64 (a+1)),()))
 |false=>some (.inr (.inl (d,e,f,())))
abbrev AFK:A1:=[AUS,AH,Ab,AU8,AVR,(.tmp 36,.di),(.tmp 37,.di)]
abbrev AFI:BB:=[(.exit 0,[AUS,AH,Ab,AU8,AVR])]
def AFG[Lk]:Vb->Option (Vb⊕(List Int×Int×Int×Int×List Int×Unit)⊕Unit):=fun(c,d,e,f,b,g,a,_)=>
 match(ilt a g)with
 |true=>match(fits ((A2 b)+(A2 ([a]:List (Int)))))with
  |true=>some (.inl (c,d,e,f,(Bk b ([a]:List (Int))),g,(w64 (a+1)),()))
  |false=>none
 |false=>some (.inr (.inl (c,d,e,f,b,())))
def vh[Lk]:(List Int×Int×Int×Us×Unit)->Option (Uf):=fun(a,c,g,b,_)=>
 match UK (c,())with|none=>none|some (d,_)=>match(ieq d 0)with
 |true=>some (([]:List (Int)),0,1,())
 |false=>match vW (a,g,(b.1,(b.2.1,(b.2.2.1,()))),())with|none=>none|some (p,q,h,e,_)=>match(!(ieq e 0))with
 |true=>some (([]:List (Int)),0,e,())
 |false=>match A6 AFG many (a,c,d,h,([]:List (Int)),(A2 a),0,())with|none=>none|some r=>match r with
 |.inl (i,j,f,k,l,_)=>match A6 AFF many (i,j,f,k,l,f,0,())with|none=>none|some r=>match r with
  |.inl (m,n,o,_)=>some (o,(w64 (n*m)),0,())
  |.inr _=>none
 |.inr _=>none
def AFM[Lk]:=lkk vh
theorem AFL v:AFM v=vh v:=A0 _
abbrev zV:A1:=[AUS,AB]
abbrev zU:A1:=[AVH,As]
abbrev qV:A1:=[AUS,AVI,(.tmp 14,.dat U5),AVJ,(.tmp 16,.di)]
abbrev qU:BB:=[(.exit 0,[AVI])]
def qT[Lk]:Uz->Option (Uz⊕Ue⊕Unit):=fun(c,a,d,e,b,_)=>
 match(ilt b e)with
 |true=>match idx d b with|none=>none|some g=>match idx c g with|none=>none|some f=>match(fits ((A2 a)+(A2 ([f]:List (Int)))))with
  |true=>some (.inl (c,(Bk a ([f]:List (Int))),d,e,(w64 (b+1)),()))
  |false=>none
 |false=>some (.inr (.inl (a,())))
def bn[Lk]:V2->Option ((List Int×Bool×Unit)):=fun(b,a,_)=>
 match AFU (a,(A2 b),())with|none=>none|some (c,_)=>match(!c)with
 |true=>some (([]:List (Int)),false,())
 |false=>match A6 qT many (b,([]:List (Int)),a,(A2 a),0,())with|none=>none|some r=>match r with
 |.inl (d,_)=>some (d,true,())
 |.inr _=>none
def eY[Lk]:=lkk bn
theorem qW v:eY v=bn v:=A0 _
abbrev AVS:Loc×Con:=(.tmp 1,.dat (.prod U0 (.prod U0 (.prod Ul .unit))))
abbrev cj:A1:=[AUS,AVS]
abbrev ACY:A1:=[AVH,(.tmp 1,.own 3 U0),AI,AT]
abbrev AVT:Loc×Con:=(.tmp 57,.di)
abbrev tv:A1:=[Ad,(.tmp 11,.own 96 Ug),AUd,AU8,(.tmp 15,.own 96 Ug),AVR,(.tmp 55,.own' 1),(.tmp 56,.di),AVT]
abbrev tu:BB:=[(.exit 0,[Ad,AU8,(.tmp 15,.own 96 Ug),AVR])]
def tt[Lk]:(Int×List Int×List Int×Int×List Int×List Int×Int×Int×Unit)->Option ((Int×List Int×List Int×Int×List Int×List Int×Int×Int×Unit)⊕(Int×Int×List Int×List Int×Unit)⊕Unit):=fun(f,c,b,g,d,e,h,a,_)=>
 match(ilt a h)with
 |true=>match idx b a with|none=>none|some i=>match(ilt (w64 (a+1)) (A2 b))with
  |true=>match idx b (w64 (a+1))with|none=>none|some j=>match idx c (A5 b (A3 a) 0)with|none=>none|some k=>match(fits ((A2 d)+(A2 ([(A5 c (A3 (A5 b (A3 a) 0)) 0)]:List (Int)))))with
   |true=>match(fits ((A2 e)+(A2 ([(w64 ((A5 b (A3 (w64 (a+1))) 0)-(A5 b (A3 a) 0)))]:List (Int)))))with
    |true=>some (.inl (f,c,b,g,(Bk d ([(A5 c (A3 (A5 b (A3 a) 0)) 0)]:List (Int))),(Bk e ([(w64 ((A5 b (A3 (w64 (a+1))) 0)-(A5 b (A3 a) 0)))]:List (Int))),h,(w64 (a+1)),()))
    |false=>none
   |false=>none
  |false=>match idx c (A5 b (A3 a) 0)with|none=>none|some l=>match(fits ((A2 d)+(A2 ([(A5 c (A3 (A5 b (A3 a) 0)) 0)]:List (Int)))))with
  |true=>match(fits ((A2 e)+(A2 ([(w64 ((A2 c)-(A5 b (A3 a) 0)))]:List (Int)))))with
   |true=>some (.inl (f,c,b,g,(Bk d ([(A5 c (A3 (A5 b (A3 a) 0)) 0)]:List (Int))),(Bk e ([(w64 ((A2 c)-(A5 b (A3 a) 0)))]:List (Int))),h,(w64 (a+1)),()))
   |false=>none
  |false=>none
 |false=>some (.inr (.inl (f,g,d,e,())))
def ck[Lk]:(List Int×(Int×Int×Us×Unit)×Unit)->Option (Up):=fun(b,a,_)=>
 match AFM (b,a.1,a.2.1,(a.2.2.1.1,(a.2.2.1.2.1,(a.2.2.1.2.2.1,()))),())with|none=>none|some (g,h,c,_)=>match(!(ieq c 0))with
 |true=>some (([]:List (Int)),([]:List (Int)),0,c,())
 |false=>match eY (b,g,())with|none=>none|some (d,o,_)=>match ga (d,())with|none=>none|some (i,_)=>match ql (i,a.2.1,(a.2.2.1.1,(a.2.2.1.2.1,(a.2.2.1.2.2.1,()))),())with|none=>none|some (e,j,f,_)=>match(!(ieq f 0))with
 |true=>some (([]:List (Int)),([]:List (Int)),0,f,())
 |false=>match A6 tt many (h,d,e,j,([]:List (Int)),([]:List (Int)),(A2 e),0,())with|none=>none|some r=>match r with
 |.inl (k,l,m,n,_)=>some (m,n,(w64 (k+l)),0,())
 |.inr _=>none
def gZ[Lk]:=lkk ck
theorem tx v:gZ v=ck v:=A0 _
abbrev ANC:A1:=[AVH,AH,AI]
def xM[Lk]:(List Int×(Int×Int×Us×Unit)×Unit)->Option (Uf):=fun(b,a,_)=>
 match gZ (b,(a.1,(a.2.1,((a.2.2.1.1,(a.2.2.1.2.1,(a.2.2.1.2.2.1,()))),()))),())with|none=>none|some (c,f,d,e,_)=>some (c,d,e,())
def AId[Lk]:=lkk xM
theorem AIc v:AId v=xM v:=A0 _
abbrev AIi:A1:=[Ax,AVS]
abbrev AIh:A1:=[AUJ,AH,AI]
abbrev ACg:A1:=[AO,AU8,(.tmp 15,.own 88 U3),(.tmp 48,.own 96 Ug),(.tmp 49,.di),(.tmp 50,.di)]
abbrev ACe:BB:=[(.exit 2,[AO,AU8,(.tmp 15,.own 88 U3)])]
def ACc[Lk]:(Int×Int×List U4×List Int×Int×Int×Unit)->Option ((Int×Int×List U4×List Int×Int×Int×Unit)⊕(Int×Int×List U4×Unit)⊕Unit):=fun(d,e,b,c,f,a,_)=>
 match(ilt a f)with
 |true=>match idx c a with|none=>none|some h=>match AIk ((A5 c (A3 a) 0),())with|none=>none|some (g,_)=>match(fits ((A2 b)+(A2 ([g]:List U4))))with
  |true=>some (.inl (d,e,(Bk b ([g]:List U4)),c,f,(w64 (a+1)),()))
  |false=>none
 |false=>some (.inr (.inl (d,e,b,())))
abbrev AVU:Loc×Con:=(.cell 0 4,.dat (.slice (.arr 2 U0)))
abbrev AVV:Loc×Con:=(.cell 0 2,.di)
abbrev AVW:Loc×Con:=(.cell 0 3,.di)
abbrev ACh:A1:=[(.tmp 3,.box 5),AK,AUk,AVV,AVW,AVU,(.tmp 7,.own 96 Ug),(.tmp 18,.dat V0),AVQ,(.tmp 20,.di)]
abbrev ACf:BB:=[(.ret,[(.tmp 4,.nil U3),AF,AUO]),(.exit 0,[(.tmp 3,.box 5),AK,AUk,AVV,AVW,AVU,(.tmp 7,.own 96 Ug)])]
def ACd[Lk]:(Int×Int×Int×Int×List U6×List Int×List U4×Int×Int×Unit)->Option ((Int×Int×Int×Int×List U6×List Int×List U4×Int×Int×Unit)⊕U4⊕(Int×Int×Int×Int×List U6×List Int×Unit)⊕Unit):=fun(d,e,f,g,h,a,i,j,b,_)=>
 match(ilt b j)with
 |true=>match idx i b with|none=>none|some c=>match AP1 ((c.1,(c.2.1,())),())with|none=>none|some (k,l,_)=>match(!l)with
  |true=>some (.inr (.inl (0,10,())))
  |false=>match(!(ieq c.1 c.2.1))with
  |true=>match(fits ((A2 a)+(A2 ([k]:List (Int)))))with
   |true=>some (.inl (d,e,f,g,h,(Bk a ([k]:List (Int))),i,j,(w64 (b+1)),()))
   |false=>none
  |false=>some (.inl (d,e,f,g,h,a,i,j,(w64 (b+1)),()))
 |false=>some (.inr (.inr (.inl (d,e,f,g,h,a,()))))
def nO[Lk]:(List U4×(Int×Int×Us×Unit)×Unit)->Option ((List U4×Int×Int×Unit)):=fun(b,a,_)=>
 match A6 ACd many (a.1,a.2.1,a.2.2.1.1,a.2.2.1.2.1,a.2.2.1.2.2.1,([]:List (Int)),b,(A2 b),0,())with|none=>none|some r=>match r with
 |.inl (d,e,_)=>some (([]:List U4),d,e,())
 |.inr r=>match r with
 |.inl (f,g,h,i,j,k,_)=>match AId (k,(f,(g,((h,(i,(j,()))),()))),())with|none=>none|some (c,l,m,_)=>match A6 ACc many (l,m,([]:List U4),c,(A2 c),0,())with|none=>none|some r=>match r with
  |.inl (n,o,p,_)=>some (p,n,o,())
  |.inr _=>none
 |.inr _=>none
def SK[Lk]:=lkk nO
theorem ACi v:SK v=nO v:=A0 _
abbrev QP:A1:=[AD,(.cap 1 0,.box 2),AK,AUP,(.tmp 1,.clo 115 [(0,0)])]
abbrev fq:A1:=[Aw,AK,AUP,AA]
abbrev Z4:A1:=[Aw,AK,AUP,AD,(.tmp 1,.clo 115 [(0,0)]),AQ,AR]
abbrev Z3:BB:=[(.ret,[Aw,AK,AUP,AS]),(.exit 0,[Aw,AK,AUP])]
def Z2[Lk]:(Int×List U2×List Int×Int×Int×Unit)->Option ((Int×List U2×List Int×Int×Int×Unit)⊕(Int×List U2×Int×Unit)⊕(Int×List U2×Unit)⊕Unit):=fun(a,c,d,e,b,_)=>
 match(ilt b e)with
 |true=>match idx d b with|none=>none|some f=>match(ile a f)with
  |true=>some (.inr (.inl (a,c,b,())))
  |false=>some (.inl (a,c,d,e,(w64 (b+1)),()))
 |false=>some (.inr (.inr (.inl (a,c,()))))
def QQ[Lk]:(List Int×Int×List U2×Unit)->Option ((Int×List U2×Int×Unit)):=fun(a,b,c,_)=>
 match A6 Z2 many (b,c,a,(A2 a),0,())with|none=>none|some r=>match r with
 |.inl (d,e,f,_)=>some (d,e,f,())
 |.inr r=>match r with
 |.inl (g,h,_)=>some (g,h,(-1:Int),())
 |.inr _=>none
def Ou[Lk]:=lkk QQ
theorem Z5 v:Ou v=QQ v:=A0 _
abbrev zI:A1:=[AA,(.tmp 13,.dat V0),AU8,AVJ]
def NL[Lk]:(Int×List U4×Int×Int×Unit)->Option ((Int×List U4×Int×Int×Unit)⊕U9⊕(Unit)⊕Unit):=fun(c,d,e,b,_)=>
 match(ilt b e)with
 |true=>match idx d b with|none=>none|some a=>match(ilt (Cn a.1 a.2.1) 0)with
  |true=>some (.inr (.inl (10,())))
  |false=>match(ile c (imax a.1 a.2.1))with
  |true=>some (.inr (.inl (10,())))
  |false=>some (.inl (c,d,e,(w64 (b+1)),()))
 |false=>some (.inr (.inr (.inl ())))
def XR[Lk]:(Int×List U4×Unit)->Option (U9):=fun(a,b,_)=>
 match(ilt a 1)with
 |true=>some (1,())
 |false=>match(ilt 64 a)with
 |true=>some (1,())
 |false=>match A6 NL many (a,b,(A2 b),0,())with|none=>none|some r=>match r with
 |.inl (c,_)=>some (c,())
 |.inr r=>match r with
 |.inl _=>some (0,())
 |.inr _=>none
def XS[Lk]:=lkk XR
theorem bj v:XS v=XR v:=A0 _
abbrev zM:A1:=[Ay,AR,Ad]
def KC[Lk]:Uf->Option (Uf⊕Ue⊕Unit):=fun(b,c,a,_)=>
 match(ilt a c)with
 |true=>match idx b a with|none=>none|some d=>some (.inl ((Ba b (A3 a) a),c,(w64 (a+1)),()))
 |false=>some (.inr (.inl (b,())))
def XW[Lk]:U9->Option (Ue):=fun(a,_)=>
 match(CC a&&CC a&&ile a a&&true)with
 |true=>match A6 KC many ((C5 (A3 a) (0:Int)),(A2 (C5 (A3 a) (0:Int))),(0:Int),())with|none=>none|some r=>match r with
  |.inl (b,_)=>some (b,())
  |.inr _=>none
 |false=>none
def XX[Lk]:=lkk XW
theorem bm v:XX v=XW v:=A0 _
abbrev L5:A1:=[AU,AH]
abbrev AVX:Loc×Con:=(.obj 0,.own 3 U0)
abbrev jr:A1:=[AVX,AA]
abbrev yq:A1:=[AVX,Aj,AH]
abbrev yp:BB:=[(.exit 0,[AVX,AH])]
def RV[Lk]:Uj->Option (Uj⊕Uj⊕Unit):=fun(a,b,_)=>
 match idx a b with|none=>none|some c=>match(!(ieq (A5 a (A3 b) 0) b))with
 |true=>match idx a b with|none=>none|some d=>match idx a (A5 a (A3 b) 0)with|none=>none|some e=>match idx a b with|none=>none|some f=>match idx (Ba a (A3 b) (A5 a (A3 (A5 a (A3 b) 0)) 0)) b with|none=>none|some g=>some (.inl ((Ba a (A3 b) (A5 a (A3 (A5 a (A3 b) 0)) 0)),(A5 (Ba a (A3 b) (A5 a (A3 (A5 a (A3 b) 0)) 0)) (A3 b) 0),()))
 |false=>some (.inr (.inl (a,b,())))
def XI[Lk]:Uj->Option (Uj):=fun(a,b,_)=>
 match A6 RV many (a,b,())with|none=>none|some r=>match r with
 |.inl (c,d,_)=>some (c,d,())
 |.inr _=>none
def RW[Lk]:=lkk XI
theorem bT v:RW v=XI v:=A0 _
abbrev ve:A1:=[AVX,AE]
def eG[Lk]:Uf->Option ((List Int×Bool×Unit)):=fun(d,e,f,_)=>
 match RW (d,e,())with|none=>none|some (g,a,_)=>match RW (g,f,())with|none=>none|some (c,b,_)=>match idx c (imax a b)with|none=>none|some h=>some ((Ba c (A3 (imax a b)) (Cn a b)),(!(ieq a b)),())
def vf[Lk]:=lkk eG
theorem jt v:vf v=eG v:=A0 _
abbrev tU:A1:=[Ax,(.cap 1 0,.own 3 U0),(.tmp 1,.bnd 176 0)]
abbrev Yh:A1:=[AVX,AUc]
abbrev nK:A1:=[AVX,(.tmp 1,.bnd 176 0),(.tmp 5,.own 4 .bool),(.tmp 8,.dat V0),Ad,Aa]
abbrev nJ:BB:=[(.exit 0,[AVX,(.tmp 5,.own 4 .bool)])]
def HA[Lk]:(List Int×List Bool×List U4×Int×Int×Unit)->Option ((List Int×List Bool×List U4×Int×Int×Unit)⊕(List Int×List Bool×Unit)⊕Unit):=fun(c,a,d,e,b,_)=>
 match(ilt b e)with
 |true=>match idx d b with|none=>none|some f=>match vf (c,f.1,f.2.1,())with|none=>none|some (h,g,_)=>match(fits ((A2 a)+(A2 ([g]:List (Bool)))))with
  |true=>some (.inl (h,(Bk a ([g]:List (Bool))),d,e,(w64 (b+1)),()))
  |false=>none
 |false=>some (.inr (.inl (c,a,())))
def O3[Lk]:(List U4×List Int×Unit)->Option ((List Int×List Bool×Unit)):=fun(a,b,_)=>
 match A6 HA many (b,([]:List (Bool)),a,(A2 a),0,())with|none=>none|some r=>match r with
 |.inl (c,d,_)=>some (c,d,())
 |.inr _=>none
def Qm[Lk]:=lkk O3
theorem TJ v:Qm v=O3 v:=A0 _
abbrev AEl:A1:=[AU,AUL]
def XJ[Lk]:(List Int×List U4×Unit)->Option ((List Int×List Bool×Unit)):=fun(a,b,_)=>
 match Qm (b,a,())with|none=>none|some (c,d,_)=>some (c,d,())
def XK[Lk]:=lkk XJ
theorem bU v:XK v=XJ v:=A0 _
abbrev AVY:Loc×Con:=(.tmp 7,.own 3 U0)
abbrev jz:A1:=[AVY,(.tmp 21,.di),(.tmp 22,.di)]
abbrev jy:BB:=[(.exit 0,[AVY])]
def G2[Lk]:Uf->Option (Uf⊕Ue⊕Unit):=fun(b,c,a,_)=>
 match(ilt a c)with
 |true=>match RW (b,a,())with|none=>none|some (d,e,_)=>match idx d a with|none=>none|some f=>some (.inl ((Ba d (A3 a) e),c,(w64 (a+1)),()))
 |false=>some (.inr (.inl (b,())))
def OL[Lk]:(Int×List U4×Unit)->Option (Uj):=fun(a,b,_)=>
 match XS (a,b,())with|none=>none|some (c,_)=>match(!(ieq c 0))with
 |true=>some (([]:List (Int)),c,())
 |false=>match XX (a,())with|none=>none|some (e,_)=>match XK (e,b,())with|none=>none|some (d,g,_)=>match A6 G2 many (d,(A2 d),0,())with|none=>none|some r=>match r with
 |.inl (f,_)=>some (f,0,())
 |.inr _=>none
def IP[Lk]:=lkk OL
theorem Sq v:IP v=OL v:=A0 _
def fT[Lk]:U4->Option (Uc):=fun(a,b,_)=>
 match AAs (a,())with|none=>none|some (c,_)=>match c with
 |true=>match AAs (b,())with|none=>none|some (d,_)=>match(!d)with
  |true=>some (true,())
  |false=>some ((ilt a b),())
 |false=>some ((ilt a b),())
def Cs[Lk]:=lkk fT
theorem mN v:Cs v=fT v:=A0 _
abbrev Il:A1:=[AVX]
abbrev AMN:A1:=[AVX,Aj,AH,AI,AUO,AQ]
abbrev AMM:BB:=[(.exit 2,[AVX,Aj,AH,AI,AUO])]
abbrev AMO:A1:=[AVX,Aj,AH,AI,AUO]
abbrev fg:BB:=[(.exit 0,[AVX])]
def APf[Lk]:=On (0:Int) Cs tId
def ARA[Lk]:=s8 (0:Int) Cs tId
theorem AMP v:ARA v=APf v:=A0 _
abbrev JG:A1:=[AU,AH,AI,AT]
abbrev AEu:A1:=[AVX,Aj,AI,AT,AR]
abbrev AEt:BB:=[(.exit 0,[AVX]),(.ret,[AVX])]
def AKn[Lk]:=Kx (0:Int) Cs tId
def ANs[Lk]:=Sl (0:Int) Cs tId
theorem AEv v:ANs v=AKn v:=A0 _
abbrev AHp:A1:=[AVX,Aj,AUO,AQ,Aa]
abbrev AHn:BB:=[(.exit 2,[AVX])]
abbrev AHq:A1:=[AVX,Aj,AUO,AQ,AR,Ad]
abbrev AHo:BB:=[(.exit 0,[AVX,Aj,AUO,AQ,AR])]
def AMc[Lk]:=LN (0:Int) Cs tId
def AN7[Lk]:=YR (0:Int) Cs tId
theorem AHr v:AN7 v=AMc v:=A0 _
abbrev ADN:A1:=[AVX,Aj,AH,AUO,(.tmp 7,.box 1),Al,(.tmp 8,.dat (.int .u64)),Ad]
def AJO[Lk]:=I2 (0:Int) Cs tId
def AJQ[Lk]:=O_ (0:Int) Cs tId
theorem ADO v:AJQ v=AJO v:=A0 _
abbrev AAi:A1:=[AU,AH,AI,An,AL]
abbrev AAh:A1:=[AVX,Ao,AL,AA,AH]
def AAj[Lk]:=GJ (0:Int) Cs tId
def wM[Lk]:=Hb (0:Int) Cs tId
theorem sG v:wM v=AAj v:=A0 _
abbrev AA1:A1:=[AU,AH,AI,AT,Ap,AL]
abbrev cE:A1:=[AVX,Ao,AL,AA]
def AA2[Lk]:=GM (0:Int) Cs tId
def wX[Lk]:=He (0:Int) Cs tId
theorem sT v:wX v=AA2 v:=A0 _
abbrev ABD:A1:=[AU,AH,Aq,AL]
def ABE[Lk]:=GN (0:Int) Cs tId
def wc[Lk]:=Hf (0:Int) Cs tId
theorem sY v:wc v=ABE v:=A0 _
abbrev AGA:A1:=[AVX,AA,AH]
def AGB[Lk]:=IY (0:Int) Cs tId
def AGD[Lk]:=OQ (0:Int) Cs tId
theorem z6 v:AGD v=AGB v:=A0 _
abbrev AK4:A1:=[AVX,Aj,AUO,AQ]
def AOi[Lk]:=OO (0:Int) Cs tId
def AQq[Lk]:=qd (0:Int) Cs tId
theorem AK5 v:AQq v=AOi v:=A0 _
abbrev lQ:A1:=[AVX,Aj,AH,AI,AQ,AR,Aa]
abbrev lM:BB:=[(.exit 6,[AVX,Aj,AH,AI,AQ,AR])]
abbrev lR:A1:=[AVX,Aj,AH,AI,AQ,AR,Ad]
abbrev lN:BB:=[(.exit 4,[AVX,Aj,AH,AI,AQ,AR])]
abbrev Sx:A1:=[AVX,Aj,AH,AI,AQ,AR]
abbrev lO:BB:=[(.exit 2,[AVX,Aj,AH,AI,AQ,AR])]
abbrev AVZ:Loc×Con:=(.tmp 6,.dat .bool)
abbrev lP:BB:=[(.ret,[AVX,AVZ]),(.exit 0,[AVX])]
def rY[Lk]:=E6 (0:Int) Cs tId
def lT[Lk]:=Ib (0:Int) Cs tId
theorem lS v:lT v=rY v:=A0 _
abbrev OU:A1:=[AVX,Aj,AH,Ad,Aa]
abbrev ru:BB:=[(.exit 4,[AVX,Aj,AH,Ad,Aa])]
abbrev ry:BB:=[(.exit 2,[AVX,Aj,AH,Ad,Aa])]
abbrev rz:BB:=[(.exit 0,[AVX,Ad])]
def AAT[Lk]:=GH (0:Int) Cs tId
def wI[Lk]:=K3 (0:Int) Cs tId
theorem r6 v:wI v=AAT v:=A0 _
abbrev ALf:A1:=[AVX,AA,As]
abbrev MH:A1:=[AVX,Aj,AH,Aa,Ab]
abbrev AGj:BB:=[(.exit 8,[AVX,Aj,AH,Aa,Ab])]
abbrev AGk:BB:=[(.exit 6,[AVX,Aj,AH,Aa,Ab])]
abbrev AGl:BB:=[(.exit 4,[AVX,Aj,AH,Ab])]
abbrev AGm:BB:=[(.exit 2,[AVX,Aj,AH,Aa,Ab])]
abbrev AGn:BB:=[(.exit 0,[AVX,Aj,AH,Aa,Ab])]
def ALg[Lk]:=K2 (0:Int) Cs tId
def AN0[Lk]:=Ps (0:Int) Cs tId
theorem AGo v:AN0 v=ALg v:=A0 _
abbrev wC:A1:=[AVX,Aj,AH,AI,AT,Ar,(.tmp 9,.dat .bool)]
abbrev wB:BB:=[(.ret,[AVX])]
def wA[Lk]:=JL (0:Int) Cs tId
def AO8[Lk]:=OR (0:Int) Cs tId
def Xs[Lk]:=Ia (0:Int) Cs tId
def ALV[Lk]:=rO (0:Int) Cs tId
theorem ALU v:ALV v=Xs 100 v:=A0 _
def AKZ[Lk]:=Kv (0:Int) Cs tId
def AEh[Lk]:=bS (0:Int) Cs tId
theorem AEg v:AEh v=AKZ v:=A0 _
abbrev AVa:Loc×Con:=(.tmp 2,.clo 169 [])
abbrev AVb:Loc×Con:=(.tmp 0,.dat Ui)
abbrev AP6:A1:=[AVb,(.tmp 1,.dat U1),AVa]
abbrev uk:A1:=[AA,As]
abbrev AVc:Loc×Con:=(.cell 0 3,.dat .bool)
abbrev ANU:A1:=[AVb,AVa,(.tmp 4,.box 4),AK,AUk,AVV,AVc,AR,Ad,Aa]
abbrev ANT:BB:=[(.exit 0,[AVb,AVa,(.tmp 4,.box 4),AK,AUk,AVV,AVc,AR,Ad])]
def ANS[Lk]:(List U2×Int×Int×Int×Bool×Int×Int×Int×Unit)->Option ((List U2×Int×Int×Int×Bool×Int×Int×Int×Unit)⊕(List U2×Int×Int×Int×Bool×Int×Int×Unit)⊕Unit):=fun(a,b,c,d,e,h,f,i,_)=>
 match(ilt f i)with
 |true=>match shr? .u64 (IntKind.wrap .u64 (w64 (f+i))) 1 with|none=>none|some j=>match idx a (w64 j)with|none=>none|some g=>match KN ((g.1,(g.2.1,(g.2.2.1,(g.2.2.2.1,())))),(b,(c,(d,(e,())))),())with|none=>none|some (k,_)=>match(ilt k 0)with
  |true=>some (.inl (a,b,c,d,e,h,(w64 ((w64 j)+1)),i,()))
  |false=>some (.inl (a,b,c,d,e,h,f,(w64 j),()))
 |false=>some (.inr (.inl (a,b,c,d,e,h,f,())))
def AJU[Lk]:(List U2×U2×Unit)->Option ((Int×Bool×Unit)):=fun(d,a,_)=>
 match A6 ANS many (d,a.1,a.2.1,a.2.2.1,a.2.2.2.1,(A2 d),0,(A2 d),())with|none=>none|some r=>match r with
 |.inl (e,f,g,h,i,j,b,_)=>match(ilt b j)with
  |true=>match idx e b with|none=>none|some c=>match KN ((c.1,(c.2.1,(c.2.2.1,(c.2.2.2.1,())))),(f,(g,(h,(i,())))),())with|none=>none|some (k,_)=>some (b,(ieq k 0),())
  |false=>some (b,false,())
 |.inr _=>none
def AP8[Lk]:=lkk AJU
theorem ANV v:AP8 v=AJU v:=A0 _
abbrev P6:A1:=[Az,AH,AI]
def mL[Lk]:V4->Option ((Int×Bool×Unit)):=fun(c,a,b,_)=>
 match AP8 (c.2.1,((Cn a b),((imax a b),(0,(false,())))),())with|none=>none|some (d,e,_)=>some (d,e,())
def sf[Lk]:=lkk mL
theorem ABO v:sf v=mL v:=A0 _
abbrev AVd:Loc×Con:=(.tmp 1,.clo 335 [(1,0)])
abbrev AVe:Loc×Con:=(.cell 1 1,.dat U8)
abbrev Mc:A1:=[AU,(.cap 1 0,.box 2),AL,AVe,AVd]
abbrev AVf:Loc×Con:=(.obj 1,.box 2)
abbrev YL:A1:=[AVX,AVf,AL,AVe,AA]
abbrev Tf:A1:=[AVX,AVf,AL,AVe,Aj,AVd,AQ,AR]
abbrev Te:BB:=[(.ret,[AVX,AVf,AL,AVe,AS]),(.exit 0,[AVX,AVf,AL,AVe])]
def Td[Lk]:Vl->Option (Vl⊕(List Int×Int×List U6×Int×Unit)⊕Vm⊕Unit):=fun(a,c,d,e,b,_)=>
 match(ilt b e)with
 |true=>match idx a b with|none=>none|some f=>match(ile c (A5 a (A3 b) 0))with
  |true=>some (.inr (.inl (a,c,d,b,())))
  |false=>some (.inl (a,c,d,e,(w64 (b+1)),()))
 |false=>some (.inr (.inr (.inl (a,c,d,()))))
def Md[Lk]:Vm->Option ((List Int×Int×List U6×Int×Unit)):=fun(a,b,c,_)=>
 match A6 Td many (a,b,c,(A2 a),0,())with|none=>none|some r=>match r with
 |.inl (d,e,f,g,_)=>some (d,e,f,g,())
 |.inr r=>match r with
 |.inl (h,i,j,_)=>some (h,i,j,(-1:Int),())
 |.inr _=>none
def LK[Lk]:=lkk Md
theorem Tg v:LK v=Md v:=A0 _
abbrev AMg:A1:=[(.tmp 0,.nil U1),AH]
abbrev AVg:Loc×Con:=(.tmp 0,.own 152 U1)
abbrev wy:A1:=[AVg]
def wz[Lk]:U9->Option ((List U2×Unit)):=fun(a,_)=>
 match(ilt a 0)with
 |true=>none
 |false=>match(ilt 0 (w64 (a-(w64 (0-0)))))with
 |true=>match D0 ([]:List Unit) 0 0 with|none=>none|some _u0=>match(CC (w64 (a-(w64 (0-0)))))with
  |true=>match D0 (C5 (A3 (w64 (a-(w64 ((0:Int)-(0:Int)))))) ((0:Int),((0:Int),((0:Int),(false,()))))) (0:Int) (0:Int)with|none=>none|some b=>some ((C1 (A3 (A2 b)) (C5 (A3 (w64 (a-(w64 ((0:Int)-(0:Int)))))) ((0:Int),((0:Int),((0:Int),(false,())))))),())
  |false=>none
 |false=>some (([]:List U2),())
def AHz[Lk]:=lkk wz
theorem AHy v:AHz v=wz v:=A0 _
abbrev AVh:Loc×Con:=(.tmp 0,.dat (.slice Ui))
abbrev ACy:A1:=[AVh]
abbrev uQ:A1:=[(.tmp 6,.own 152 U1),(.tmp 25,.dat (.slice Ui)),AZ,AY]
abbrev uO:BB:=[(.exit 2,[(.tmp 6,.own 152 U1)])]
def uM[Lk]:(List U2×List (List U2)×Int×Int×Unit)->Option ((List U2×List (List U2)×Int×Int×Unit)⊕(List U2×Unit)⊕Unit):=fun(a,c,d,b,_)=>
 match(ilt b d)with
 |true=>match idx c b with|none=>none|some e=>match(fits ((A2 a)+(A2 e)))with
  |true=>some (.inl ((Bk a e),c,d,(w64 (b+1)),()))
  |false=>none
 |false=>some (.inr (.inl (a,())))
abbrev uR:A1:=[AVh,AT,(.tmp 9,.dat (.slice Ui)),Aa,Ab]
abbrev uP:BB:=[(.exit 0,[AVh,AT])]
def uN[Lk]:(List (List U2)×Int×List (List U2)×Int×Int×Unit)->Option ((List (List U2)×Int×List (List U2)×Int×Int×Unit)⊕(List (List U2)×Int×Unit)⊕Unit):=fun(c,a,d,e,b,_)=>
 match(ilt b e)with
 |true=>match idx d b with|none=>none|some f=>match(ilt (w64 (a+(A2 f))) 0)with
  |true=>none
  |false=>some (.inl (c,(w64 (a+(A2 f))),d,e,(w64 (b+1)),()))
 |false=>some (.inr (.inl (c,a,())))
def cw[Lk]:(List (List U2)×Unit)->Option ((List U2×Unit)):=fun(a,_)=>
 match A6 uN many (a,0,a,(A2 a),0,())with|none=>none|some r=>match r with
 |.inl (b,c,_)=>match AHz (c,())with|none=>none|some (d,_)=>match A6 uM many (d,b,(A2 b),0,())with|none=>none|some r=>match r with
  |.inl (e,_)=>some (e,())
  |.inr _=>none
 |.inr _=>none
def gl[Lk]:=lkk cw
theorem uS v:gl v=cw v:=A0 _
abbrev AVi:Loc×Con:=(.cell 0 0,.dat U5)
abbrev JX:A1:=[AD,(.cap 1 0,.box 1),AVi,(.tmp 1,.clo 212 [(0,0)])]
abbrev QO:A1:=[Ae,AVi,AA]
abbrev Ot:A1:=[Ae,AVi,AD,(.tmp 1,.clo 212 [(0,0)]),AQ,AR]
abbrev Oq:BB:=[(.ret,[Ae,AVi,AS]),(.exit 0,[Ae,AVi])]
def DA[Lk]:Up->Option (Up⊕Uj⊕Ue⊕Unit):=fun(a,c,d,b,_)=>
 match(ilt b d)with
 |true=>match idx c b with|none=>none|some e=>match(ilt e 0)with
  |true=>some (.inr (.inl (a,b,())))
  |false=>match(ile (A2 a) e)with
  |true=>some (.inr (.inl (a,b,())))
  |false=>some (.inl (a,c,d,(w64 (b+1)),()))
 |false=>some (.inr (.inr (.inl (a,()))))
def Fa[Lk]:V2->Option (Uj):=fun(a,b,_)=>
 match A6 DA many (b,a,(A2 a),0,())with|none=>none|some r=>match r with
 |.inl (c,d,_)=>some (c,d,())
 |.inr r=>match r with
 |.inl (e,_)=>some (e,(-1:Int),())
 |.inr _=>none
def HN[Lk]:=lkk Fa
theorem Ir v:HN v=Fa v:=A0 _
abbrev AVj:Loc×Con:=(.cell 1 2,.di)
abbrev AIv:A1:=[AD,(.cap 1 0,.box 1),AVi,(.cap 1 1,.box 3),AL,AVA,AVj,(.tmp 1,.clo 141 [(0,0),(1,0)])]
abbrev AIu:A1:=[Ae,AVi,(.obj 1,.box 3),AL,AVA,AVj,AA]
abbrev ACx:A1:=[Ae,AVi,(.obj 1,.box 3),AL,AVA,AVj,(.tmp 1,.clo 141 [(0,0),(1,0)]),AS,(.tmp 7,.dat U5),AR,Ad]
abbrev ACw:BB:=[(.exit 0,[Ae,AVi,(.obj 1,.box 3),AL,AVA,AVj,AS])]
def KY[Lk]:(List Int×Int×Int×Int×Int×List Int×Int×Int×Unit)->Option ((List Int×Int×Int×Int×Int×List Int×Int×Int×Unit)⊕(List Int×Int×Int×Int×Int×Unit)⊕Unit):=fun(a,d,b,e,f,g,h,c,_)=>
 match(ilt c h)with
 |true=>match idx g c with|none=>none|some i=>match idx a b with|none=>none|some j=>match(ieq i j)with
  |true=>some (.inl (a,d,b,e,(w64 (f+1)),g,h,(w64 (c+1)),()))
  |false=>some (.inl (a,d,b,e,f,g,h,(w64 (c+1)),()))
 |false=>some (.inr (.inl (a,d,b,e,f,())))
def Yq[Lk]:(List Int×List Int×Int×Int×Int×Unit)->Option ((List Int×Int×Int×Int×Int×Unit)):=fun(a,b,c,d,e,_)=>
 match A6 KY many (b,c,d,e,0,a,(A2 a),0,())with|none=>none|some r=>match r with
 |.inl (f,g,h,i,j,_)=>some (f,g,h,i,j,())
 |.inr _=>none
def Yr[Lk]:=lkk Yq
theorem ct v:Yr v=Yq v:=A0 _
abbrev AIs:A1:=[AD,(.tmp 1,.clo 142 [])]
abbrev ACv:A1:=[(.tmp 1,.clo 142 []),AS,(.tmp 7,.dat U5),AR,Ad]
abbrev ACu:BB:=[(.exit 0,[AS])]
def KX[Lk]:(Int×List Int×Int×Int×Unit)->Option ((Int×List Int×Int×Int×Unit)⊕U9⊕Unit):=fun(b,c,d,a,_)=>
 match(ilt a d)with
 |true=>match idx c a with|none=>none|some e=>match(ieq a e)with
  |true=>some (.inl ((w64 (b+1)),c,d,(w64 (a+1)),()))
  |false=>some (.inl (b,c,d,(w64 (a+1)),()))
 |false=>some (.inr (.inl (b,())))
def Yp[Lk]:Ue->Option (U9):=fun(a,_)=>
 match A6 KX many (0,a,(A2 a),0,())with|none=>none|some r=>match r with
 |.inl (b,_)=>some (b,())
 |.inr _=>none
def gi[Lk]:=lkk Yp
theorem cr v:gi v=Yp v:=A0 _
abbrev AVk:Loc×Con:=(.tmp 0,.dat (.slice (.int .u8)))
abbrev xu:A1:=[AVk,AH]
def ah[Lk]:Uj->Option ((Int×Bool×Unit)):=fun(b,a,_)=>
 match(ilt a 0)with
 |true=>some (0,false,())
 |false=>match(ilt (w64 ((A2 b)-2)) a)with
 |true=>some (0,false,())
 |false=>match idx b a with|none=>none|some c=>match shl? .i64 (w64 c) 8 with|none=>none|some d=>match idx b (w64 (a+1))with|none=>none|some e=>some ((w64 ((BitVec.ofInt (IntKind.bits .i64) d ||| BitVec.ofInt (IntKind.bits .i64) (w64 e)).toNat)),true,())
def vE[Lk]:=lkk ah
theorem oi v:vE v=ah v:=A0 _
def gJ[Lk]:(U2×U2×Unit)->Option (U9):=fun(a,b,_)=>
 match Bh ((a.1,(a.2.1,())),(b.1,(b.2.1,())),())with|none=>none|some (c,_)=>some (c,())
def Ct[Lk]:=lkk gJ
theorem mo v:Ct v=gJ v:=A0 _
abbrev AVl:Loc×Con:=(.tmp 3,.clo 107 [])
abbrev Rx:A1:=[AVg,AH,AI,AVl]
abbrev AVm:Loc×Con:=(.obj 0,.own 152 U1)
abbrev Ij:A1:=[AVm]
abbrev AMF:A1:=[AVm,Aj,AH,AI,AVl,AR,Ad]
abbrev AME:BB:=[(.exit 2,[AVm,Aj,AH,AI,AVl,AR])]
abbrev AMG:A1:=[AVm,Aj,AH,AI,AVl,AR]
abbrev fe:BB:=[(.exit 0,[AVm])]
def APb[Lk]:=On ((0,(0,(0,(false,())))):U2) Ct tLt
def AQ8[Lk]:=s8 ((0,(0,(0,(false,())))):U2) Ct tLt
theorem AMH v:AQ8 v=APb v:=A0 _
abbrev AVn:Loc×Con:=(.tmp 4,.clo 107 [])
abbrev JE:A1:=[AVg,AH,AI,AT,AVn]
abbrev AEo:A1:=[AVm,Aj,AI,AT,AVn,Aa]
abbrev AEn:BB:=[(.exit 0,[AVm]),(.ret,[AVm])]
def AKj[Lk]:=Kx ((0,(0,(0,(false,())))):U2) Ct tLt
def ANq[Lk]:=Sl ((0,(0,(0,(false,())))):U2) Ct tLt
theorem AEp v:ANq v=AKj v:=A0 _
abbrev AHf:A1:=[AVm,Aj,AVl,AR,Ad,AP]
abbrev AHd:BB:=[(.exit 2,[AVm])]
abbrev AHg:A1:=[AVm,Aj,AVl,AR,Ad,Aa,Ab]
abbrev AHe:BB:=[(.exit 0,[AVm,Aj,AVl,AR,Ad,Aa])]
def AMY[Lk]:=LN ((0,(0,(0,(false,())))):U2) Ct tLt
def AN5[Lk]:=YR ((0,(0,(0,(false,())))):U2) Ct tLt
theorem AHh v:AN5 v=AMY v:=A0 _
abbrev ADJ:A1:=[AVm,Aj,AH,AR,(.tmp 9,.box 1),Al,Am,Ab]
def AJJ[Lk]:=I2 ((0,(0,(0,(false,())))):U2) Ct tLt
def breakT[Lk]:=O_ ((0,(0,(0,(false,())))):U2) Ct tLt
theorem ADK v:breakT v=AJJ v:=A0 _
abbrev AAa:A1:=[AVg,AH,AI,An,AL,AVn]
abbrev AAZ:A1:=[AVm,Ao,AL,AA,AH]
def AAb[Lk]:=GJ ((0,(0,(0,(false,())))):U2) Ct tLt
def wK[Lk]:=Hb ((0,(0,(0,(false,())))):U2) Ct tLt
theorem sE v:wK v=AAb v:=A0 _
abbrev AAv:A1:=[AVg,AH,AI,AT,Ap,AL,(.tmp 5,.clo 107 [])]
abbrev cC:A1:=[AVm,Ao,AL,AA]
def AAw[Lk]:=GM ((0,(0,(0,(false,())))):U2) Ct tLt
def wV[Lk]:=He ((0,(0,(0,(false,())))):U2) Ct tLt
theorem sR v:wV v=AAw v:=A0 _
abbrev AA7:A1:=[AVg,AH,Aq,AL,AVl]
def AA8[Lk]:=GN ((0,(0,(0,(false,())))):U2) Ct tLt
def wZ[Lk]:=Hf ((0,(0,(0,(false,())))):U2) Ct tLt
theorem sW v:wZ v=AA8 v:=A0 _
abbrev AF2:A1:=[AVm,AA,AH]
def AF3[Lk]:=IY ((0,(0,(0,(false,())))):U2) Ct tLt
def AF5[Lk]:=OQ ((0,(0,(0,(false,())))):U2) Ct tLt
theorem z4 v:AF5 v=AF3 v:=A0 _
abbrev AK0:A1:=[AVm,Aj,AR,Ad]
def AOe[Lk]:=OO ((0,(0,(0,(false,())))):U2) Ct tLt
def AQo[Lk]:=qd ((0,(0,(0,(false,())))):U2) Ct tLt
theorem AK1 v:AQo v=AOe v:=A0 _
abbrev rS:A1:=[AVm,AE]
abbrev k8:A1:=[AVm,Aj,AH,AI,AVl,Ad,Aa,AP]
abbrev k0:BB:=[(.exit 6,[AVm,Aj,AH,AI,AVl,Ad,Aa])]
abbrev k9:A1:=[AVm,Aj,AH,AI,AVl,Ad,Aa,Ab]
abbrev k5:BB:=[(.exit 4,[AVm,Aj,AH,AI,AVl,Ad,Aa])]
abbrev Sv:A1:=[AVm,Aj,AH,AI,AVl,Ad,Aa]
abbrev k6:BB:=[(.exit 2,[AVm,Aj,AH,AI,AVl,Ad,Aa])]
abbrev k7:BB:=[(.ret,[AVm,Ar]),(.exit 0,[AVm])]
def rT[Lk]:=E6 ((0,(0,(0,(false,())))):U2) Ct tLt
def lD[Lk]:=Ib ((0,(0,(0,(false,())))):U2) Ct tLt
theorem lC v:lD v=rT v:=A0 _
abbrev AAN:A1:=[AVm,AA]
abbrev OS:A1:=[AVm,Aj,AH,AVn,Ab,AP]
abbrev ri:BB:=[(.exit 4,[AVm,Aj,AH,AVn,Ab,AP])]
abbrev rj:BB:=[(.exit 2,[AVm,Aj,AH,AVn,Ab,AP])]
abbrev rk:BB:=[(.exit 0,[AVm,Ab])]
def AAO[Lk]:=GH ((0,(0,(0,(false,())))):U2) Ct tLt
def wG[Lk]:=K3 ((0,(0,(0,(false,())))):U2) Ct tLt
theorem rl v:wG v=AAO v:=A0 _
abbrev ALb:A1:=[AVm,AA,As]
abbrev ME:A1:=[AVm,Aj,AH,AVn,AP,AO]
abbrev AGW:BB:=[(.exit 8,[AVm,Aj,AH,AVn,AP,AO])]
abbrev AGX:BB:=[(.exit 6,[AVm,Aj,AH,AVn,AP,AO])]
abbrev AGY:BB:=[(.exit 4,[AVm,Aj,AH,AO])]
abbrev AGZ:BB:=[(.exit 2,[AVm,Aj,AH,AVn,AP,AO])]
abbrev AGa:BB:=[(.exit 0,[AVm,Aj,AH,AVn,AP,AO])]
def ALc[Lk]:=K2 ((0,(0,(0,(false,())))):U2) Ct tLt
def ANy[Lk]:=Ps ((0,(0,(0,(false,())))):U2) Ct tLt
theorem AGb v:ANy v=ALc v:=A0 _
abbrev v5:A1:=[AVm,Aj,AH,AI,AT,AVn,At,Au]
abbrev v3:BB:=[(.ret,[AVm])]
def vz[Lk]:=JL ((0,(0,(0,(false,())))):U2) Ct tLt
def AO4[Lk]:=OR ((0,(0,(0,(false,())))):U2) Ct tLt
def Xq[Lk]:=Ia ((0,(0,(0,(false,())))):U2) Ct tLt
def ALN[Lk]:=rO ((0,(0,(0,(false,())))):U2) Ct tLt
theorem ALM v:ALN v=Xq 100 v:=A0 _
abbrev AKU:A1:=[AVg,(.tmp 1,.clo 107 [])]
def AKV[Lk]:=Kv ((0,(0,(0,(false,())))):U2) Ct tLt
def vZ[Lk]:=bS ((0,(0,(0,(false,())))):U2) Ct tLt
theorem AEe v:vZ v=AKV v:=A0 _
def w7[Lk]:(Ud×Int×Unit)->Option (Uc):=fun(a,b,_)=>
 some ((ile (w64 ((A2 a.2.1)+b)) 400),())
def AH1[Lk]:=lkk w7
theorem AH0 v:AH1 v=w7 v:=A0 _
abbrev gb:A1:=[AUW,Ao,AUV,AUX,(.tmp 0,.win' 0)]
abbrev aH:A1:=[AUW,Ao,AUV,AUX,Aj,AUU,AF,AUO]
abbrev aG:BB:=[(.exit 0,[AUW,Ao,AUV,AUX,Aj,AF])]
def aF[Lk]:(List U4×List Vd×Int×Int×Unit)->Option ((List U4×List Vd×Int×Int×Unit)⊕(List U4×List Vd×Int×Unit)⊕Unit):=fun(a,d,c,b,_)=>
 match(ilt b (A2 a))with
 |true=>match idx a b with|none=>none|some e=>match(!(ieq ((A9 d ((A5 a (A3 b) (0,(0,()))).1,((A5 a (A3 b) (0,(0,()))).2.1,()))).getD 0) 0))with
  |true=>match idx a c with|none=>none|some f=>some (.inl ((Ba a (A3 c) ((A5 a (A3 b) (0,(0,()))).1,((A5 a (A3 b) (0,(0,()))).2.1,()))),d,(w64 (c+1)),(w64 (b+1)),()))
  |false=>some (.inl (a,d,c,(w64 (b+1)),()))
 |false=>some (.inr (.inl (a,d,c,())))
def Qo[Lk]:(List U4×List Vd×Unit)->Option ((List U4×List Vd×Int×Unit)):=fun(g,h,_)=>
 match Ow (g,h,())with|none=>none|some (c,e,d,_)=>match(ieq d (-1:Int))with
 |true=>some (c,e,(A2 c),())
 |false=>match A6 aF many (c,e,d,(w64 (d+1)),())with|none=>none|some r=>match r with
 |.inl (a,i,b,_)=>match D0 a b (A2 a)with|none=>none|some f=>match D0 (DX (A3 b) (A3 (A2 f)) (0,(0,())) a) 0 b with|none=>none|some j=>some ((DX (A3 b) (A3 (A2 f)) (0,(0,())) a),i,(((A3 (A2 j)):Nat):Int),())
 |.inr _=>none
def O4[Lk]:=lkk Qo
theorem aI v:O4 v=Qo v:=A0 _
def Oy[Lk]:U9->Option (Uc):=fun(a,_)=>
 match(ile 0 a)with
 |true=>some ((ile a 1099511627776),())
 |false=>some (false,())
def Mg[Lk]:=lkk Oy
theorem S' v:Mg v=Oy v:=A0 _
def ANn[Lk]:U9->Option (Uc):=fun(a,_)=>
 match(ile 1 a)with
 |true=>some ((ile a 3),())
 |false=>some (false,())
def wb1[Lk]:=lkk ANn
theorem AOK v:wb1 v=ANn v:=A0 _
def bM{R:Type}(slot:Nat)(H:List Ob)(fz:List Bool)(k:AV->Eff->Option R)(v:AV)(e:Eff):Option R:=
 match e.heap with
 |none=>match v with
  |.win id 0 n=>match(Cp e H)[id]? with
   |some (.arr T t xs)=>match BG (Eo e fz) id&&Bb (Cp e H) (Eo e fz) (slot+3)&&(e.objs.any fun p=>Nat.beq p.1 id)with
    |true=>k (.own (slot+3)) { objs:=e.objs++[(id,.dead),(slot+3,.arr T t (C1 n xs))],frz:=e.frz }
    |false=>none
   |_=>none
  |_=>none
 |some _=>none
def Gy(s:Spec):Spec:=fun R args H fz slot k=>s R args H fz slot (bM slot H fz k)
section
variable {P:Program} {g:FuncId}
theorem ABw{w:World}{F:Nat->Prop}{m:Mp}{H:List Ob}{fz:List Bool}(hi:HI w F m H fz){id n slot:Nat}{T:TypeId}{t:Ty}{xs:List t.den}(i:H[id]? = some (.arr T t xs))(A:BG fz id=true)
  (o:Bb H fz slot=true) {u:Value} (e:Rep w F m H (.win id 0 n) u) :
  ∃ f,BO w F m H fz w F f ((H.set id .dead).set slot (.arr T t (C1 n xs))) fz/\Rep w F f ((H.set id .dead).set slot (.arr T t (C1 n xs))) (.own slot) u:=by
 have c:=hi.obj id _ i;obtain⟨B,c⟩:=c;unfold Rep at e;rw[i]at e;obtain⟨q,e⟩:=e;rw[ASP]at q;have r:slot≠id:=gL o i;have d:=BO.kill hi (C7 i A);have zero:∀ a,n=0->u = .slice a 0 0->∃ f,BO w F m H fz w F f ((H.set id .dead).set slot (.arr T t (C1 n xs))) fz/\Rep w F f ((H.set id .dead).set slot (.arr T t (C1 n xs))) (.own slot) u:=by intro a I J;subst I;subst J;obtain⟨f,s,j⟩:=EP (w:=w) d.2 (LG o r) T B a;exact⟨f,d.trans s,j⟩
 cases v:m id with
  |none=>rw[v]at e c;obtain⟨a,C⟩:=e;simp_all
  |some p=>
   obtain⟨b,cap⟩:=p;rw[v]at e c;obtain⟨vs,y,C,O,K,L,M,Q⟩:=c;obtain⟨a,rfl,N⟩:=e;rcases ATG cap with D|D;simp_all;have:=N D;rw[ATn]at this;subst this;have E:=fun(x:t.den) cs (h:Dat w F t x cs)=>Dat.length t h;have k:(xs.take n).length=n:=by grind
   have l:=Ea E n M;have z:=Bv E l;rw[k]at z;have s:=BO.move (w':=w) hi (C7 i A) v o (ob:=.arr T t (C1 n xs)) trivial (b':=b) (c':=cap) (.inl rfl) rfl rfl rfl (ARo _) (fun _ _ _=>rfl) (fun _=>⟨B,vs,y.take (n*t.size),C,by
    show(xs.take n).length<=cap;omega,K,L,l,by
    grind⟩)
   refine⟨_,s,?_⟩;have G:=BS (B7 o).1;unfold Rep;rw[Bl (by grind),BW];show Value.slice _ n (cap-0)=Value.slice _ (xs.take n).length cap;grind
theorem jg{s:Spec}(l:BQ P g s):BQ P g (Gy s):=by
 intro R args H fz slot k r o;obtain⟨v,e,a,p,q,x⟩:=l R args H fz slot _ r o;unfold bM at a;split at a;rename_i f;split at a;rename_i id n;split at a;rename_i T t xs i;split at a;rename_i d;refine⟨_,_,a,fun E G => ?_,q,fun w F m b hi y => ?_⟩;unfold Gy;rw[p];simp only[bM,f,i,d];refine(x w F m b hi y).mono ?_;rintro I w' ⟨u,rfl,z,J,j,c⟩;simp only[ARl]at d;obtain⟨A,h,B⟩:=ABw j.2 i d.1.1 d.1.2 c;have C:Cp { objs:=e.objs++[(id,.dead),(slot+3,.arr T t (C1 n xs))],frz:=e.frz } H=((Cp e H).set id .dead).set (slot+3) (.arr T t (C1 n xs)):=by rw[Cf rfl,Cf f,So];rfl
 have D:Eo { objs:=e.objs++[(id,.dead),(slot+3,.arr T t (C1 n xs))],frz:=e.frz } fz=Eo e fz:=by rw[DJ rfl,DJ f]
 refine⟨u,rfl,z,A,?_,?_⟩;rw[C,D];exact j.trans h;grind;grind;grind;grind;grind
theorem FK{np b:Nat}{a outs:A1}{rs:List RS}{f:BV (leaves a)->Option (BV (leaves outs))}(d:∀ x,f x=none):BQ P g (BU np b a outs rs f):=by intro R args H fz slot k r c;unfold BU at c;grind
end
section
variable {S:List Nat} {H H':List Ob}
theorem Gf.pL{s:Spec}(h:Gf s):Fv s:=
 fun R args H H' fz fz' slot k S c _ b=>h R args H H' fz fz' slot k ⟨fun id a=>b.heap id (c id a),b.slotH,b.slotF,b.len,fun id a=>by cases a⟩
def S5:A1->Bool
 |[]=>true
 |(.obj _,_)::_=>false
 |_::r=>S5 r
def AOm(S:List Nat)(v:AV):Prop:=∀ id∈BR v,id∈S
def Y8(S:List Nat)(a:List Bnd):Prop:=∀ b∈a,∀ id,b.id? = some id->id∈S
theorem Y8.get{a:List Bnd}(h:Y8 S a){j:Nat}{b:Bnd}{id:Nat}(c:a[j]? = some b)(hi:b.id? = some id):id∈S:=h b (ARu c) id hi
theorem Y8.snoc{c:List Bnd}(h:Y8 S c){b:Bnd}(d:∀ id,b.id? = some id->id∈S):Y8 S (c++[b]):=by intro x a id hi;rcases AR6.1 a with a|a;exact h x a id hi;grind
theorem wk{g:List AV}{h:List Bnd}{l:Loc}(k:∀ id∈Bt g,id∈S)(n:VR S H)(p:∀ id∈S,H[id]? = H'[id]?)(q:Y8 S h)(u:∀ j,l≠.obj j):
  look (lk g) H h l=look (lk g) H' h l/\∀ v,look (lk g) H h l=some v->AOm S v:=by
 cases l with
  |tmp t=>refine⟨rfl,fun v e id d=>k id ?_⟩;exact DL (ARu e) d
  |cell j c=>
   simp only[look];cases r:h[j]? with
    |none=>simp
    |some b=>
     cases b with
      |none=>simp
      |cut id=>simp
      |whole id=>
       have d:=q.get r (id:=id) rfl;simp only;rw[p id d];refine⟨rfl,fun v e => ?_⟩;cases s:H'[id]? with
        |none=>grind
        |some o=>
         rw[s]at e;cases o<;>simp only at e<;>first|grind|skip
         rename_i cs;intro i hi;exact n id d cs (by grind) i (DL (ARu e) hi)
  |cap t i=>
   refine⟨rfl,fun v e => ?_⟩;simp only[look]at e;cases m:lk g t with
    |none=>grind
    |some a=>
     rw[m]at e;cases a<;>simp only at e<;>first|grind|skip
     rename_i f cs;intro id d;refine k id (DL (ARu (show g[t]? = _ from m)) ?_);simp only[BR];exact DL (ARu e) d;rename_i f cs;intro id d;refine k id (DL (ARu (show g[t]? = _ from m)) ?_);simp only[BR];exact DL (ARu e) d
  |obj j=>grind
theorem Ky{f:List Nat}{fz fz':List Bool}(a:fz.length=fz'.length){id:Nat}(h:fz.getD id false=fz'.getD id false):(BF f fz).getD id false=(BF f fz').getD id false:=by rw[Bd,Bd,h,a]
theorem AIl{y:List AV}(J:∀ id∈Bt y,id∈S)(K:VR S H)(C:∀ id∈S,H[id]? = H'[id]?):∀ (z:A1) (fz fz':List Bool) (i:List Bnd),S5 z=true->Y8 S i->fz.length=fz'.length->(∀ id∈S,fz.getD id false=fz'.getD id false) ->
  dec (lk y) H z fz i=dec (lk y) H' z fz' i:=by
 intro z;induction z with
  |nil=>intro fz fz' i _ _ _ _;rfl
  |cons p r G=>
   intro fz fz' i F m A I;obtain⟨l,c⟩:=p;have E:(∀ j,l≠.obj j)/\S5 r=true:=by
    cases l with
     |obj j=>cases F
     |tmp t=>exact⟨fun j h=>(by cases h),F⟩
     |cell a b=>exact⟨fun j h=>(by cases h),F⟩
     |cap a b=>exact⟨fun j h=>(by cases h),F⟩
   obtain⟨o,D⟩:=wk J K C m E.1;have g:=fun i m=>G fz fz' i E.2 m A I;have B:∀ id∈S,BG fz id=BG fz' id:=fun id d=>by unfold BG;grind
   cases c with
    |dat t=>
     simp only[dec,<- o];cases s:look (lk y) H i l with
      |none=>rfl
      |some v=>
       simp only;rw[TO t v fun id d=>C id (D v s id d)];cases ZA H' t v with
        |none=>rfl
        |some q=>obtain⟨x,f⟩:=q;simp only;rw[G (BF f fz) (BF f fz') i E.2 m (by rw[Dq,Dq,A]) (fun id d=>Ky A (I id d))]
    |own T e=>
     simp only[dec,<- o];cases s:look (lk y) H i l with
      |none=>rfl
      |some v=>
       cases v with
        |nils L=>simp only;rw[g _ (m.snoc fun id h=>by cases h)]
        |own id=>have d:id∈S:=D _ s id (by simp[BR]);simp only;rw[<- C id d,B id d,g _ (m.snoc fun w h=>by simp only[Bnd.id?,ARi]at h;grind)]
        |win id off n=>
         have d:id∈S:=D _ s id (by simp[BR]);cases off with
          |succ off=>rfl
          |zero=>simp only;rw[<- C id d,B id d,g _ (m.snoc fun w h=>by simp only[Bnd.id?,ARi]at h;grind)]
        |_=>rfl
    |box n=>
     simp only[dec,<- o];cases s:look (lk y) H i l with
      |none=>rfl
      |some v=>
       cases v with
        |ptr id off=>
         have d:id∈S:=D _ s id (by simp[BR]);cases off with
          |succ off=>rfl
          |zero=>simp only;rw[<- C id d,g _ (m.snoc fun w h=>by simp only[Bnd.id?,ARi]at h;grind)]
        |_=>rfl
    |map k v=>
     simp only[dec,<- o];cases s:look (lk y) H i l with
      |none=>rfl
      |some u=>
       cases u with
        |mp id=>have d:id∈S:=D _ s id (by simp[BR]);simp only;rw[<- C id d,g _ (m.snoc fun w h=>by simp only[Bnd.id?,ARi]at h;grind)]
        |_=>rfl
    |rows T e t=>
     simp only[dec,<- o];cases s:look (lk y) H i l with
      |none=>rfl
      |some u=>
       cases u with
        |own id=>have d:id∈S:=D _ s id (by simp[BR]);simp only;rw[<- C id d,B id d,g _ (m.snoc fun w h=>by simp only[Bnd.id?,ARi]at h;grind)]
        |_=>rfl
    |mrows j e t=>
     simp only[dec,<- o];cases s:look (lk y) H i l with
      |none=>rfl
      |some u=>
       cases u with
        |mp id=>have d:id∈S:=D _ s id (by simp[BR]);simp only;rw[<- C id d,B id d,g _ (m.snoc fun w h=>by simp only[Bnd.id?,ARi]at h;grind)]
        |_=>rfl
    |aptr T e n=>
     simp only[dec,<- o];cases s:look (lk y) H i l with
      |none=>rfl
      |some u=>
       cases u with
        |aptr id M=>have d:id∈S:=D _ s id (by simp[BR]);simp only;rw[<- C id d,B id d,g _ (m.snoc fun w h=>by simp only[Bnd.id?,ARi]at h;grind)]
        |_=>rfl
    |aptr' j n=>simp only[dec,<- o,g i m]
    |bndp f j=>simp only[dec,<- o,g i m]
    |nilp=>simp only[dec,<- o,g i m]
    |own' j=>simp only[dec,<- o,g i m]
    |ptr' j off=>simp only[dec,<- o,g i m]
    |map' j=>simp only[dec,<- o,g i m]
    |sub' j=>simp only[dec,<- o,g i m]
    |win' j=>
     simp only[dec,<- o];rw[g i m];cases s:look (lk y) H i l with
      |none=>rfl
      |some v=>
       cases v with
        |own id=>have d:id∈S:=D _ s id (by simp[BR]);grind
        |win id off n=>grind
        |_=>simp
    |clo f N=>simp only[dec,<- o,g i m]
    |bnd f j=>simp only[dec,<- o,g i m]
    |prs T j=>
     simp only[dec,<- o];cases s:look (lk y) H i l with
      |none=>rfl
      |some v=>
       cases v with
        |nils L=>simp only;rw[g _ (m.snoc fun id h=>by cases h)]
        |own id=>have d:id∈S:=D _ s id (by simp[BR]);simp only;rw[<- C id d,g _ (m.snoc fun w h=>by simp only[Bnd.id?,ARi]at h;grind)]
        |_=>rfl
    |nil e=>simp only[dec,<- o,g i m]
theorem QX{fz fz':List Bool}:∀ (n:Nat) (a:List Bnd) (slot:Nat),(∀ s,slot<=s->s<slot+n->Bb H fz s=Bb H' fz' s)->Fb H fz (DE n a slot) a=Fb H' fz' (DE n a slot) a:=by
 intro n;induction n with
  |zero=>intro a slot _;cases a<;>rfl
  |succ n c=>
   intro a slot h;cases a with
    |nil=>simp only[DE,Fb,List.tail_nil];grind
    |cons b a=>
     cases b with
      |whole id=>simp only[DE,Fb,ATF];grind
      |none=>simp only[DE,Fb,ATF];grind
      |cut id=>simp only[DE,Fb,ATF];grind
theorem CM{np j:Nat}{a outs:A1}{rs:List RS}{f:BV (leaves a)->Option (BV (leaves outs))}(d:S5 a=true)(l:Nat.ble (DN outs) 4=true):Fv (BU np j a outs rs f):=by intro R args H H' fz fz' slot k S m n c;have o:=ASI l;have hd:dec (lk args) H a fz []=dec (lk args) H' a fz' []:=AIl m n c.heap a fz fz' [] d (fun b p=>by cases p) c.len c.wrF;unfold BU;rw[hd];split;rfl;rename_i x h e _;split;rfl;split;rfl;have i:∀ (g:List Nat) s,slot<=s->s<slot+DN outs->Bb H (BF g fz) s=Bb H' (BF g fz') s:=fun g s q r=>Ef c q (by omega) g;unfold I3;rw[QX (fz:=fz) (fz':=fz') (DN outs) (h.take np) slot (i []),QX (fz:=BF e fz) (fz':=BF e fz') (DN outs) (h.take np) slot (i e)]
theorem ABo:∀ (n:Nat) (a:List Bnd) (slot i:Nat),i∈DE n a slot->(∃ b∈a,b.id? = some i)\/(slot<=i/\i<slot+n):=by
 intro n;induction n with
  |zero=>intro a slot i h;cases a<;>cases h
  |succ n f=>
   intro a slot i h;have next:∀ c,i∈slot::DE n c (slot+1)->(∃ b∈c,b.id? = some i)\/(slot<=i/\i<slot+(n+1)):=by grind
   cases a with
    |nil=>exact next [] h
    |cons b a=>
     cases b with
      |whole id=>simp only[DE]at h;rcases AR4.1 h with rfl|h;exact .inl ⟨.whole i,by simp,rfl⟩;grind
      |none=>rcases next a h with⟨b,d,e⟩|h;all_goals grind
      |cut id=>rcases next a h with⟨b,d,e⟩|h;all_goals grind
theorem ACk{w:List AV}(C:∀ id∈Bt w,id∈S)(D:VR S H):∀ (o:A1) (fz:List Bool) (u:List Bnd) (x:BV (leaves o)) (q:List Bnd) (z:List Nat),S5 o=true->Y8 S u ->
  dec (lk w) H o fz u=some (x,q,z)->Y8 S q:=by
 intro o;induction o with
  |nil=>intro fz u x q z _ m h;simp only[dec,ARi]at h;grind
  |cons p r g=>
   intro fz u x q z y m h;obtain⟨l,c⟩:=p;have d:(∀ j,l≠.obj j)/\S5 r=true:=by
    cases l with
     |obj j=>cases y
     |tmp t=>exact⟨fun j h=>(by cases h),y⟩
     |cell a b=>exact⟨fun j h=>(by cases h),y⟩
     |cap a b=>exact⟨fun j h=>(by cases h),y⟩
   have s:=(wk (H':=H) C D (fun _ _=>rfl) m d.1 (l:=l)).2;have one:∀ {id:Nat} {b:Bnd},id∈S->b.id? = some id->Y8 S (u++[b]):=fun E B=>m.snoc fun F G=>by grind
   cases c<;>simp only[dec]at h
   case dat t=>
    grind
   case own T e=>
    split at h
    ·split at h
     ·split at h
      ·rename_i hd;cases h;exact g _ _ _ _ _ d.2 (m.snoc fun id h=>by cases h) hd
      grind
     grind
    ·rename_i id i
     split at h
     ·split at h
      ·split at h
       ·rename_i hd;cases h;exact g _ _ _ _ _ d.2 (one (s _ i id (by simp[BR])) rfl) hd
       grind
      grind
     grind
    ·rename_i id n i
     split at h
     ·split at h
      ·split at h
       ·rename_i hd;cases h;exact g _ _ _ _ _ d.2 (one (s _ i id (by simp[BR])) rfl) hd
       grind
      grind
     grind
    grind
   case prs T j=>
    split at h
    ·split at h
     ·rename_i hd;cases h;exact g _ _ _ _ _ d.2 (m.snoc fun id h=>by cases h) hd
     grind
    ·rename_i id i
     split at h
     ·split at h
      ·split at h
       ·rename_i hd;cases h;exact g _ _ _ _ _ d.2 (one (s _ i id (by simp[BR])) rfl) hd
       grind
      grind
     grind
    grind
   case box n=>
    split at h
    ·rename_i id i
     split at h
     ·split at h
      ·exact g _ _ _ _ _ d.2 (one (s _ i id (by simp[BR])) rfl) h
      grind
     grind
    grind
   case map k v=>
    split at h
    ·rename_i id i
     split at h
     ·split at h
      ·split at h
       ·rename_i hd;cases h;exact g _ _ _ _ _ d.2 (one (s _ i id (by simp[BR])) rfl) hd
       grind
      grind
     grind
    grind
   case rows T e t=>
    split at h
    ·rename_i id i
     split at h
     ·split at h
      ·split at h
       ·rename_i hd;cases h;exact g _ _ _ _ _ d.2 (one (s _ i id (by simp[BR])) rfl) hd
       grind
      grind
     grind
    grind
   case mrows j e t=>
    split at h
    ·rename_i id i
     split at h
     ·split at h
      ·split at h
       ·rename_i hd;cases h;exact g _ _ _ _ _ d.2 (one (s _ i id (by simp[BR])) rfl) hd
       grind
      grind
     grind
    grind
   case aptr T e n=>
    split at h
    ·rename_i id I i
     split at h
     ·split at h
      ·split at h
       ·rename_i hd;cases h;exact g _ _ _ _ _ d.2 (one (s _ i id (by simp[BR])) rfl) hd
       grind
      grind
     grind
    grind
   case bndp f j=>
    split at h
    ·split at h
     ·exact g _ _ _ _ _ d.2 m h
     grind
    grind
   case nilp=>
    cases A:look (lk w) H u l with
    |none=>grind
    |some v=>
     rw[A]at h
     cases v<;>simp only at h<;>first|exact g _ _ _ _ _ d.2 m h|cases h
   case aptr' j n=>
    split at h
    ·split at h
     ·exact g _ _ _ _ _ d.2 m h
     grind
    grind
   case own' j=>
    split at h
    ·split at h
     ·exact g _ _ _ _ _ d.2 m h
     grind
    grind
   case ptr' j off=>
    split at h
    ·split at h
     ·exact g _ _ _ _ _ d.2 m h
     grind
    grind
   case map' j=>
    split at h
    ·split at h
     ·exact g _ _ _ _ _ d.2 m h
     grind
    grind
   case win' j=>
    grind
   case sub' j=>
    grind
   case clo f ps=>
    split at h
    ·split at h
     ·exact g _ _ _ _ _ d.2 m h
     grind
    grind
   case bnd f j=>
    split at h
    ·split at h
     ·exact g _ _ _ _ _ d.2 m h
     grind
    grind
   case nil e=>
    cases A:look (lk w) H u l with
    |none=>grind
    |some v=>
     rw[A]at h
     cases v<;>simp only at h<;>first|exact g _ _ _ _ _ d.2 m h|cases h
theorem AKR{np L:Nat}{a outs:A1}{rs:List RS}{f:BV (leaves a)->Option (BV (leaves outs))}(z:S5 a=true)(M:Nat.ble (DN outs) 4=true):Fv (Gy (BU np L a outs rs f)):=by
 intro R args H H' fz fz' slot k E I J d;have N:=ASI M;have hd:dec (lk args) H a fz []=dec (lk args) H' a fz' []:=AIl I J d.heap a fz fz' [] z (fun b w=>by cases w) d.len d.wrF;have A:∀ x c m,dec (lk args) H a fz []=some (x,c,m)->Y8 E c:=fun x c m h=>ACk I J a fz [] x c m z (fun b w=>by cases w) h;unfold Gy BU;rw[hd]at A |-;split;rfl
 ·rename_i x c m B;have w:=A x c m B;split;rfl
  ·split;rfl
   ·rename_i y _;have K:∀ (g:List Nat) s,slot<=s->s<slot+DN outs->Bb H (BF g fz) s=Bb H' (BF g fz') s:=fun g s o C=>Ef d o (by omega) g;have O:∀ (e:Eff) (v:AV),e.heap=none->(∀ p∈e.objs,p.1∈given (c.drop np)\/p.1∈DE (DN outs) (c.take np) slot)->bM slot H fz k v e=bM slot H' fz' k v e:=by
     intro e v l P;unfold bM;rw[l];simp only;have F:Bb (Cp e H) (Eo e fz) (slot+3)=Bb (Cp e H') (Eo e fz') (slot+3):=by rw[Cf l,Cf l,DJ l,DJ l];unfold Bb;rw[Gi e.objs H H' (d.slotH (slot+3) (by omega) (by omega)),Ky d.len (d.slotF (slot+3) (by omega) (by omega))]
     cases v with
      |win id off n=>
       cases off with
        |succ off=>rfl
        |zero=>
         simp only;cases q:(e.objs.any fun p=>Nat.beq p.1 id)with
          |false=>grind
          |true=>
           rw[List.any_eq_true]at q;obtain⟨p,G,r⟩:=q;have r:=ASH r;subst r;have D:(∃ b∈c,b.id? = some p.1)\/(slot<=p.1/\p.1<slot+DN outs):=by rcases P p G with h|h;obtain⟨j,Q⟩:=R6.1 h;exact .inl ⟨_,ATK (ARu Q),rfl⟩;·rcases ABo _ _ _ _ h with⟨b,o,C⟩|h;all_goals grind
           have o:H[p.1]? = H'[p.1]? := by
            rcases D with⟨b,t,u⟩|⟨o,C⟩
            exact d.heap _ (w b t _ u);exact d.slotH _ o (by omega)
           have C:fz.getD p.1 false=fz'.getD p.1 false:=by
            rcases D with⟨b,t,u⟩|⟨o,C⟩
            exact d.wrF _ (w b t _ u);exact d.slotF _ o (by omega)
           have T:(Cp e H)[p.1]? = (Cp e H')[p.1]? := by rw[Cf l,Cf l];exact Gi e.objs H H' o
           have U:BG (Eo e fz) p.1=BG (Eo e fz') p.1:=by rw[DJ l,DJ l];unfold BG;rw[Ky d.len C]
           grind
      |_=>rfl
    have mem:∀ p∈(given (c.drop np)).map (fun i=>(i,Ob.dead))++(DE (DN outs) (c.take np) slot).zip ((encode (cellsOf rs) outs y).heap.map (EA (DE (DN outs) (c.take np) slot))),p.1∈given (c.drop np)\/p.1∈DE (DN outs) (c.take np) slot:=by intro p G;rcases AR6.1 G with h|h;grind;exact .inr (List.of_mem_zip h).1
    unfold I3;rw[QX (fz:=fz) (fz':=fz') (DN outs) (c.take np) slot (K []),QX (fz:=BF m fz) (fz':=BF m fz') (DN outs) (c.take np) slot (K m)];split;·split;all_goals grind
    ·split;all_goals grind
end
def AN9(i:Nat)(args:List AV):Option FuncId:=
 match args[i]? with
 |some (.clo f _)=>some f
 |some (.bnd f _)=>some f
 |_=>none
def Env.Tl(E:Env)(g:FuncId)(i:Nat)(c:FuncId)(s:Spec):Env where
 spec x:=match Nat.beq x g with
  |true=>fun R args H fz slot k=>match AN9 i args with
   |some c'=>match Nat.beq c' c with
    |true=>s R args H fz slot k
    |false=>E.spec x R args H fz slot k
   |.none=>Option.none
  |false=>E.spec x
 loc x:=match Nat.beq x g with
  |true=>false
  |false=>E.loc x
 FY x:=match Nat.beq x g with
  |true=>E.FY g
  |false=>E.FY x
 pan x:=match Nat.beq x g with
  |true=>.none
  |false=>E.pan x
theorem Env.Qe{P:Program}{E:Env}{g:FuncId}{i:Nat}{c:FuncId}{s:Spec}(h:BE P E)(o:BQ P g s)(f:Fv s):BE P (E.Tl g i c s):=by
 refine⟨?_,⟨?_,?_⟩,fun x p a => ?_⟩;intro x;simp only[Env.Tl];cases a:Nat.beq x g with
  |false=>exact h.1 x
  |true=>have:=ASH a;subst this;intro R args H fz slot k r d;simp only at d;split at d;rename_i c' q;split at d;rename_i b;obtain⟨v,e,t,j,u,w⟩:=o R args H fz slot k r d;grind;rename_i b;obtain⟨v,e,t,j,u,w⟩:=h.1 x R args H fz slot k r d;grind;grind
 intro x a;simp only[Env.Tl]at a |-;cases b:Nat.beq x g with
  |true=>grind
  |false=>rw[b]at a;exact h.2.1.1 x a
 intro x a;simp only[Env.Tl]at a |-;cases b:Nat.beq x g with
  |true=>rw[b]at a;have:=ASH b;subst this;have j:=h.2.1.2 x a;intro R args H H' fz fz' slot k S l m n;simp only;split;split;exact f R args H H' fz fz' slot k S l m n;exact j R args H H' fz fz' slot k S l m n;rfl
  |false=>rw[b]at a;exact h.2.1.2 x a
 simp only[Env.Tl]at a |-;cases b:Nat.beq x g with
  |true=>grind
  |false=>rw[b]at a;exact h.2.2 x p a
def mX:List Value->Option (List (IntKind×Int))
 |[]=>some []
 |.int k n::r=>(mX r).map ((k,n) :: ·)
 |_::_=>none
def AJ2:Exit->Option PV
 |.panic [⟨.iface T (.agg a),false,false⟩]=>(mX a.toList).map fun l=>(T,l)
 |_=>none
def vl(T:TypeId)(a:List IntKind)(e:Exit):Option (List Int):=
 match AJ2 e with
 |some (T',l)=>match decide (T'=T)&&decide (l.map (·.1)=a)with
  |true=>some (l.map (·.2))
  |false=>none
 |none=>none
def AJy:List IntKind->List Int->List (IntKind×Int)
 |[],_=>[]
 |k::ks,ns=>(k,ns.headD 0)::AJy ks ns.tail
def AFe(T:TypeId)(a:List IntKind)(b:List Int):PV:=(T,AJy a b)
theorem AHQ:∀ {vs:List Value} {l:List (IntKind×Int)},mX vs=some l->vs=l.map fun p=>Value.int p.1 p.2:=by
 intro vs;induction vs with
  |nil=>intro l h;simp only[mX,ARi]at h;grind
  |cons v vs b=>intro l h;unfold mX at h;split at h;grind;rename_i k n r a;cases a;simp only[ARr]at h;grind;grind
theorem vJ{e:Exit}{p:PV}(h:AJ2 e=some p):e = .panic [C4 p]:=by unfold AJ2 at h;split at h;rename_i T a;simp only[ARr]at h;obtain⟨l,b,rfl⟩:=h;have:=AHQ b;simp only[C4,Jq];rw[<- this];grind
theorem kV{T:TypeId}{a:List IntKind}{e:Exit}{b:List Int}(h:vl T a e=some b):e = .panic [C4 (AFe T a b)]:=by
 unfold vl at h;split at h;rename_i g l d;split at h;rename_i c;simp only[ARl,ARm]at c;obtain⟨rfl,rfl⟩:=c;simp only[ARi]at h;subst h;rw[vJ d];unfold AFe;have:∀ l:List (IntKind×Int),AJy (l.map (·.1)) (l.map (·.2))=l:=by
  intro l;induction l with
   |nil=>rfl
   |cons p l f=>simp only[ASE,AJy,AT0,ATF,f]
 rw[this];grind;grind
noncomputable section
abbrev AJr(os:BB)(pits:A1):Type:=ZH os⊕(List Int×BV (leaves pits))
def Rb(np f:Nat)(b:A1)(os:BB)(T:TypeId)(g:List IntKind)(a:A1)(e:Exit)(st:St):Option (BV (leaves b)⊕AJr os a):=
 match e with
 |.normal=>match decode np f st b with
  |some d=>some (.inl d)
  |none=>none
 |.panic c=>match vl T g (.panic c)with
  |some h=>match decode np f st a with
   |some d=>some (.inr (.inr (h,d)))
   |none=>none
  |none=>none
 |e=>match S3 np f e st os with
  |some x=>some (.inr (.inl x))
  |none=>none
def tC(b:Nat){R:Type}(T:TypeId)(c:List IntKind)(a:A1)(k:Exit->St->Option R)(os:BB):AJr os a->Option R
 |.inl r=>YT b k os r
 |.inr q=>k (.panic [C4 (AFe T c q.1)]) (encode b a q.2)
def K8[Lk](np c:Nat)(b:A1)(os:BB)(T:TypeId)(d:List IntKind)(a:A1)(step:BV (leaves b)->Option (BV (leaves b)⊕AJr os a)):ZI:=fun R st k=>
 match decode np c st b with
 |none=>none
 |some v=>match A6 step many v with
  |none=>none
  |some r=>tC c T d a k os r
def IW[Lk](P:Program)(E:Env)(h:Hints)(n np d:Nat)(c:Code)(a:A1)(os:BB)(T:TypeId)(e:List IntKind)(b:A1)(v:BV (leaves a)):Option (BV (leaves a)⊕AJr os b):=
 BZ P E h _ c n (encode d a v) (Rb np d a os T e b)
def DT[Lk](np:Nat)(P:Program)(E:Env)(h:Hints)(fn:Func)(b outs:A1)(rs:List RS)(T:TypeId)(d:List IntKind)(a:A1)(x:BV (leaves b)):Option (BV (leaves outs)⊕(List Int×BV (leaves a))):=
 match fn.body with
 |none=>none
 |some c=>BZ P E h _ c 0 (encode fn.ntmps b x) fun e st=>
  match e with
  |.normal=>match finish np P fn outs rs st with
   |some y=>some (.inl y)
   |none=>none
  |.ret=>match finish np P fn outs rs st with
   |some y=>some (.inl y)
   |none=>none
  |.panic c=>match vl T d (.panic c)with
   |some f=>match dec (lk []) st.heap a st.frz []with
    |some (z,bs,_)=>match pins np 0 bs&&(st.heap.take np).all B_ with
     |true=>some (.inr (f,z))
     |false=>none
    |none=>none
   |none=>none
  |_=>none
def HU(np c:Nat)(b outs:A1)(rs:List RS)(T:TypeId)(d:List IntKind)(a:A1)(f:BV (leaves b)->Option (BV (leaves outs)⊕(List Int×BV (leaves a)))):Kg:=fun R args H fz slot k kp=>
 match dec (lk args) H b fz []with
 |none=>none
 |some (x,bs,fr)=>match bs.all Bnd.vI&&decide (bs.length=DN b)&&decide (args.length=c)&&(GK b&&GK outs&&GK a)with
  |false=>none
  |true=>match f x with
   |none=>none
   |some (.inl y)=>I3 R (given (bs.drop np)) (bs.take np) fr rs (encode (cellsOf rs) outs y) (DE (DN outs) (bs.take np) slot) H fz k
   |some (.inr q)=>I3 R (given (bs.drop np)) (bs.take np) fr [] (encode 0 a q.2) (DE (DN a) (bs.take np) slot) H fz fun _ e=>kp (AFe T d q.1) e
def DG{α β:Type}:Option (α⊕β)->Option α
 |some (.inl y)=>some y
 |_=>none
end
section
variable {P:Program} {E:Env}
theorem X6[DfI]{U:Hints}(hE:∀ g,BQ P g (E.spec g))(hL:EX E)(hP:Fu P E){np s n:Nat}{b:Code}{o:A1}{os:BB}{T:TypeId}{H:List IntKind}{f:A1}{stp:BV (leaves o)->Option (BV (leaves o)⊕AJr os f)}
  (B:∀ v,stp v=IW P E U n np s b o os T H f v) (hl:Bu P np U b n):I7 P np (.loop b) (K8 np s o os T H f stp):=by
 intro R st k r C;unfold K8 at C;split at C;cases C;rename_i v hv;split at C;cases C;rename_i x hx;have I:∃ e st',k e st'=some r/\∀ (J:Type) (D:Exit->St->Option J),tC s T H f D os x=D e st':=by
  cases x with
   |inl x=>exact cV os x C
   |inr q=>exact⟨_,_,C,fun _ _=>rfl⟩
 obtain⟨e,st',h1,h2⟩:=I;refine⟨e,st',h1,fun J D=>by simp only[K8,hv,hx];grind,?_⟩
 have V:∀ (i:Nat) (v:BV (leaves o)),BC stp i v=some x->∀ (w:World) (F:Nat->Prop) (m:Mp) (a:Act) (Q:Exit->Act->World->Prop),SI w F m (encode s o v) a ->
   (∀ u w' W X,SI w' W X st' u->HT np w F m (encode s o v).heap (encode s o v).frz w' W X st'.heap st'.frz->Q e u w')->Code.rounds P b Q i a w:=by
  intro i
  induction i with
  |zero=>intro v h;simp[BC]at h
  |succ i ih=>
   intro v h w F m a Q Y S
   simp only[BC]at h
   rw[B v]at h
   cases Z:IW P E U n np s b o os T H f v with
   |none=>grind
   |some y=>
    rw[Z]at h
    unfold IW at Z
    obtain⟨A,K,t,_,g3⟩:=C' hE hL hP b n hl _ _ _ _ Z
    show b.wp P (Exit.then (Code.rounds P b Q i) Q) a w
    refine g3 w F m a _ Y fun u w' W X s1 x1 => ?_
    have fin:∀ (j:A1) (d:BV (leaves j)),decode np s K j=some d->(∀ (J:Type) (D:Exit->St->Option J),tC s T H f D os x=D A (encode s j d))->Q A u w':=by
     intro j d o1 o2
     obtain⟨L,M,N,O⟩:=GV s1 o1
     have e3:=(h2 (Exit×St) fun e st=>some (e,st)).symm.trans (o2 (Exit×St) fun e st=>some (e,st))
     simp only[ARi,ARw]at e3
     obtain⟨rfl,rfl⟩:=e3
     exact S u w' L M N (x1.trans O)
    have p:A≠.normal->(∀ c,A≠.panic c)->Q A u w':=by
     intro hn hp
     have G:(match S3 np s A K os with
      |some x=>some (Sum.inr (Sum.inl x))
      |none=>none)=some y:=by
      cases A<;>first|grind|exact absurd rfl (hp _)|exact t
     split at G
     ·rename_i z hz
      simp only[ARi]at G;subst G
      simp only[ARi]at h;subst h
      obtain⟨j,d,o1,o2⟩:=lz os _ hz
      exact fin j d o1 o2
     grind
    cases A with
    |normal=>
     simp only[Rb]at t
     split at t
     ·rename_i d hd
      simp only[ARi]at t;subst t
      obtain⟨L,M,N,O⟩:=GV s1 hd
      show Code.rounds P b Q i u w'
      exact ih d h w' L M u Q N fun a3 w3 F3 m3 s3 x3=>S a3 w3 F3 m3 s3 (x1.trans (O.trans x3))
     grind
    |panic c=>
     simp only[Rb]at t
     split at t
     ·rename_i ns hns
      split at t
      ·rename_i d hd
       simp only[ARi]at t;subst t
       simp only[ARi]at h;subst h
       exact fin f d hd fun J D=>by rw[kV hns];rfl
      grind
     grind
    |exit id=>exact p (by simp) (by simp)
    |goto l=>exact p (by simp) (by simp)
    |ret=>exact p (by simp) (by simp)
    |outgrown=>exact p (by simp) (by simp)
 intro w F m a Q Y S;obtain⟨L,M,N,O⟩:=GV Y hv;exact wp_loop_rounds many (V many v (by rw[<- Bj];exact hx) w L M a Q N fun a3 w3 F3 m3 s3 x3=>S a3 w3 F3 m3 s3 (O.trans x3))
variable {h:Hints} {g:FuncId} {fn:Func} {c:Code}
theorem kn(e:∀ g,BQ P g (E.spec g))(f:EX E)(i:Fu P E)(j:fn.body=some c){np:Nat}{a outs:A1}{rs:List RS}{T:TypeId}{k:List IntKind}{b:A1}(l:Bu P np h c 0)(x:BV (leaves a)){y:BV (leaves outs)}
  (d:DT np P E h fn a outs rs T k b x=some (.inl y)):Da np P E h fn a outs rs x=some y:=by unfold DT at d;unfold Da;rw[j]at d |-;simp only at d |-;obtain⟨m,st',n,o,_⟩:=C' e f i c 0 l _ _ _ _ d;grind
theorem AMB(f:∀ g,BQ P g (E.spec g))(i:EX E)(j:Fu P E)(k:fn.body=some c){np:Nat}{a outs:A1}{rs:List RS}{T:TypeId}{m:List IntKind}{d:A1}(l:Bu P np h c 0)(x:BV (leaves a)):
  DG (DT np P E h fn a outs rs T m d x)=Da np P E h fn a outs rs x:=by
 cases e:DT np P E h fn a outs rs T m d x with
  |some y=>
   cases y with
    |inl y=>exact(kn f i j k l x e).symm
    |inr q=>
     cases b:Da np P E h fn a outs rs x with
      |none=>rfl
      |some y=>exfalso;unfold Da at b;unfold DT at e;rw[k]at e b;simp only at e b;obtain⟨n,st',o,p,_⟩:=C' f i j c 0 l _ _ _ _ b;grind
  |none=>
   cases b:Da np P E h fn a outs rs x with
    |none=>rfl
    |some y=>exfalso;unfold Da at b;unfold DT at e;rw[k]at e b;simp only at e b;obtain⟨n,st',o,p,_⟩:=C' f i j c 0 l _ _ _ _ b;grind
theorem KJ(hE:∀ g,BQ P g (E.spec g))(hL:EX E)(hP:Fu P E)(hf:P.funcs[g]? = some fn)(Z:fn.body=some c)(hc:HH P g)
  {np J:Nat} (K:J<=fn.ntmps) {l outs:A1} {rs:List RS} {T:TypeId} {L:List IntKind} {b:A1} {f:BV (leaves l)->Option (BV (leaves outs)⊕(List Int×BV (leaves b)))} (C:∀ x,f x=DT np P E h fn l outs rs T L b x) (hl:Bu P np h c 0) :
  Gq P g (BU np J l outs rs fun x=>DG (f x)) (HU np J l outs rs T L b f):=by
 intro R args H fz slot k kp r j;simp only[HU]at j;split at j;cases j;rename_i x bs fr d;split at j;cases j;rename_i t;simp only[ARl,ARm]at t;obtain⟨⟨⟨a,u⟩,n⟩,⟨o,v⟩,A⟩:=t;split at j;cases j;rename_i y p;left;obtain⟨e,M,_,_,h5,_⟩:=Q0 j;refine⟨_,e,M,fun R' k' N => ?_,fun R' k' => ?_⟩;simp only[HU,d,a,u,n,o,v,A,p,ARx,ASJ];grind;simp only[BU,d,a,u,n,o,v,p,DG,ARx,ASJ];grind;rename_i q p;right;obtain⟨ns,z⟩:=q;simp only at j;obtain⟨e,M,O,Q,h5,S,U,V⟩:=Q0 j;refine⟨_,e,M,fun R' k' N => ?_,hc,fun w F m vals hi hr => ?_⟩;simp only[HU,d,a,u,n,o,v,A,p,ARx,ASJ];grind;rw[C x]at p;unfold DT at p;rw[Z]at p;simp only at p;obtain⟨ex,st',B,_,g3⟩:=C' hE hL hP c 0 hl _ _ _ _ p;have D:∃ i s,ex = .panic [C4 (AFe T L ns)]/\dec (lk []) st'.heap b st'.frz []=some (z,i,s)/\pins np 0 i=true:=by
  cases ex with
   |normal=>grind
   |ret=>grind
   |panic ch=>simp only at B;split at B;rename_i ns' W;split at B;rename_i z' i s hd;split at B;rename_i I;simp only[ARi,Sum.inr.injEq,ARw]at B;obtain⟨rfl,rfl⟩:=B;rw[ARl]at I;exact⟨i,s,kV W,hd,I.1⟩;grind;grind;grind
   |_=>grind
 obtain⟨i,s,rfl,X,I⟩:=D;refine calls_of_wp hf Z ?_;obtain⟨F2,m2,gA,G,Y⟩:=O9 hi hr n K d;refine g3 w F2 m2 _ _ Y fun a' w' F' m' s1 x1 => ?_;obtain⟨F3,m3,hg,_⟩:=Y7 (rs:=[]) hi gA G a o A rfl rfl O Q S U V s1.heap x1 (vs:=[]) (us:=[]) Kf rfl X I;exact⟨s1.defers,rfl,F3,m3,hg⟩
theorem KH (hE : BE P E) (hf : P.funcs[g]? = some fn) (hb : fn.body.isSome = true) (hn : (fn.name == "runtime.NumGoroutine") = false) {np na : Nat} (hna : Nat.ble na fn.ntmps = true) {its outs : A1} {rs : List RS} {T : TypeId} {ks : List IntKind} {pits : A1}
  {f:BV (leaves its)->Option (BV (leaves outs)⊕(List Int×BV (leaves pits)))} (hfun:∀ x,f x=DT np P E h fn its outs rs T ks pits x) (hl:Bu P np h (Bz fn) 0):BQ P g (BU np na its outs rs fun x=>DG (f x)):=
 Gc hE hf hb hn hna (fun x=>by rw[hfun];exact AMB hE.1 hE.2.1 hE.2.2 (Fp hb) hl x) hl
def Env.gS(E:Env)(g:FuncId)(FY:Bool)(a:Spec)(s:Kg):Env where
 spec x:=match Nat.beq x g with
  |true=>a
  |false=>E.spec x
 loc x:=match Nat.beq x g with
  |true=>false
  |false=>E.loc x
 FY x:=match Nat.beq x g with
  |true=>FY
  |false=>E.FY x
 pan x:=match Nat.beq x g with
  |true=>some s
  |false=>E.pan x
theorem Env.VB{FY:Bool}{d:Spec}{s:Kg}(h:BE P E)(i:BQ P g d)(j:Gq P g d s)(e:FY=true->Fv d):BE P (E.gS g FY d s):=by
 refine⟨?_,⟨?_,?_⟩,fun x f a => ?_⟩;intro x;simp only[Env.gS];cases a:Nat.beq x g with
  |true=>simp_all
  |false=>exact h.1 x
 intro x a;simp only[Env.gS]at a |-;cases b:Nat.beq x g with
  |true=>grind
  |false=>rw[b]at a;exact h.2.1.1 x a
 intro x a;simp only[Env.gS]at a |-;cases b:Nat.beq x g with
  |true=>grind
  |false=>rw[b]at a;exact h.2.1.2 x a
 simp only[Env.gS]at a |-;cases b:Nat.beq x g with
  |true=>simp_all
  |false=>rw[b]at a;exact h.2.2 x f a
def AC3(i:Nat)(c:FuncId)(s:Kg)(a:Option Kg):Kg:=fun R args H fz slot k kp=>
 match AN9 i args with
 |some c'=>match Nat.beq c' c with
  |true=>s R args H fz slot k kp
  |false=>match a with
   |some a=>a R args H fz slot k kp
   |none=>none
 |none=>none
def Env.TE(E:Env)(g:FuncId)(i:Nat)(c:FuncId)(a:Spec)(s:Kg):Env:=
 { E.Tl g i c a with pan:=fun x=>match Nat.beq x g with
  |true=>some (AC3 i c s (E.pan g))
  |false=>E.pan x }
theorem Env.m7{i:Nat}{c:FuncId}{j:Spec}{s:Kg}(h:BE P E)(C:BQ P g j)(D:Gq P g j s)(y:Fv j):BE P (E.TE g i c j s):=by
 have B:=Env.Qe (i:=i) (c:=c) h C y;refine⟨B.1,B.2.1,fun x z q => ?_⟩;simp only[Env.TE]at q;cases w:Nat.beq x g with
  |false=>
   rw[w]at q;have e:(E.TE g i c j s).spec x=E.spec x:=by simp only[Env.TE,Env.Tl,w]
   rw[e];exact h.2.2 x z q
  |true=>
   rw[w]at q;have:=ASH w;subst this;simp only[ARi]at q;subst q;intro R args H fz slot k kp r t;unfold AC3 at t;split at t;rename_i c' a;have e:∀ (b:Type) (f:AV->Eff->Option b),(E.TE x i c j s).spec x b args H fz slot f=match Nat.beq c' c with
     |true=>j b args H fz slot f
     |false=>E.spec x b args H fz slot f:=by
    intro b f
    simp only[Env.TE,Env.Tl,Nat.beq_refl,a]<;>grind
   split at t;rename_i d;rcases D R args H fz slot k kp r t with⟨v,l,m,A,u⟩|⟨p,l,m,A,u⟩
   exact .inl ⟨v,l,m,fun b f n=>by simp only[AC3,a,d];grind,fun b f=>by grind⟩;exact .inr ⟨p,l,m,fun b f n=>by simp only[AC3,a,d];grind,u⟩;rename_i d;split at t;rename_i z o;rcases h.2.2 x z o R args H fz slot k kp r t with⟨v,l,m,A,u⟩|⟨p,l,m,A,u⟩
   exact .inl ⟨v,l,m,fun b f n=>by simp only[AC3,a,d,o];grind,fun b f=>by grind⟩;exact .inr ⟨p,l,m,fun b f n=>by simp only[AC3,a,d,o];grind,u⟩;grind;grind
end
end
end Go.Pev
end
section
namespace Go.Pev
open Go.RowKit
noncomputable section
def gg:List Oper->Option (FuncId×List Operand×Tmp)
 |[o0,o1]=>match o0.op,o0.dst,o0.guard with
  |.makeFunc (.func g) first cs,some t,none=>match o1.op,o1.dst,o1.guard with
   |.defer c,none,none=>match c.callee with
    |.value (.tmp t')=>match Nat.beq t' t&&(c.args.isEmpty&&first.isEmpty)with
     |true=>some (g,cs.toList,t)
     |false=>none
    |_=>none
   |_,_,_=>none
  |_,_,_=>none
 |_=>none
def isRec(o:Oper):Bool:=match o.op,o.guard with
 |.call { callee:=.builtin .recover,args,.. },none=>args.isEmpty
 |_,_=>false
def Rg[Lk](P:Program)(E:Env)(h:Hints)(R:Type)(fnC:Func)(rv:AV)(caps:List AV)(H:List Ob)(fz:List Bool)(k:St->Option R):Option R:=
 match fnC.body with
 |some (.seq (.region _ ops false) rest)=>match ops.toList with
  |[]=>none
  | o :: os => match isRec o && (Nat.beq (loops rest) 0 && (fnC.results.toList.isEmpty && (Nat.ble caps.length fnC.ntmps && !(fnC.name == "runtime.NumGoroutine")))) with
   |false=>none
   |true=>FV P E R (o::os) os H.length ((({ tmps:=.of caps fnC.ntmps,heap:=H,frz:=fz }:St).pad (Cu (o::os))).put o.dst rv) fun st=>BZ P E h R rest 0 st fun e st=>match e with
    |.normal=>k st
    |.ret=>k st
    |_=>none
 |_=>none
def K1[Lk](P:Program)(E:Env)(h:Hints)(R:Type):Nat->Code->St->(Exit->St->Option R)->(List Oper->Code->St->Option R)->Option R
 |0,.seq (.region _ ops false) b,st,_,kd=>kd ops.toList b st
 |m+1,.seq a b,st,ke,kd=>match Nat.beq (loops a) 0 with
  |true=>BZ P E h R a 0 st fun e st=>match e with
   |.normal=>K1 P E h R m b st ke kd
   |e=>ke e st
  |false=>none
 |_,_,_,_,_=>none
def Y9(H:List Ob):AV->Bool
 |.ptr i 0=>FZ H i
 |_=>false
def vo(np:Nat):AV->Bool
 |.ptr i 0=>decide (i<np)
 |_=>false
def nY:Nat->Code->Code
 |0,.seq _ b=>b
 |m+1,.seq _ b=>nY m b
 |_,c=>c
def AQ2(t:Tmp):Operand->Bool
 |.tmp t' => !(Nat.beq t' t)
 |_=>true
def Rf[Lk](P:Program)(E:Env)(fn:Func)(m:Nat)(j outs:A1)(rs:List RS)(n o k:Hints)(d:A1)(l:Nat)(x:BV (leaves j)):Option (BV (leaves outs)):=
 match fn.body with
 |none=>none
 |some c=>K1 P E n _ m c (encode fn.ntmps j x)
  (fun e st=>match e with
   |.ret=>finish 0 P fn outs rs st
   |_=>none)
  fun ops b st=>match gg ops with
   |none=>none
   |some (g,cs,t)=>match P.funcs[g]? with
    |none=>none
    |some i=>match decode 0 fn.ntmps (st.put (some t) (.clo g (cs.map (BX st.tmps)))) d with
     |none=>none
     |some v=>match(Nat.blt t fn.ntmps&&cs.all (AQ2 t))&&(cs.map (BX (encode fn.ntmps d v).tmps)).all fun a=>vo l a&&Y9 (encode fn.ntmps d v).heap a with
      |false=>none
      |true=>BZ P E o _ b 0 (encode fn.ntmps d v) fun e f=>match(cs.map (BX (encode fn.ntmps d v).tmps)).all (Y9 f.heap)with
       |false=>none
       |true=>match e with
        |.normal=>Rg P E k _ i (.ifc none) (cs.map (BX (encode fn.ntmps d v).tmps)) f.heap f.frz fun h=>finish 0 P fn outs rs { tmps:=f.tmps,heap:=h.heap,frz:=h.frz }
        |.ret=>Rg P E k _ i (.ifc none) (cs.map (BX (encode fn.ntmps d v).tmps)) f.heap f.frz fun h=>finish 0 P fn outs rs { tmps:=f.tmps,heap:=h.heap,frz:=h.frz }
        |.panic q=>match AJ2 (.panic q)with
         |some p=>Rg P E k _ i (.ifc (some p)) (cs.map (BX (encode fn.ntmps d v).tmps)) f.heap f.frz fun h=>finish 0 P fn outs rs { tmps:=f.tmps,heap:=h.heap,frz:=h.frz }
         |none=>none
        |_=>none
end
section
variable {P:Program} {E:Env} {h:Hints}
theorem rE{R:Type}{r:R}(L:∀ g,BQ P g (E.spec g)){ops:Array Oper}{Q:Exit->Act->List Frame->World->Prop}{cs:List Frame}{k:St->Option R}:∀ (b pre:List Oper) (slot:Nat) (st:St) (w:World) (F:Nat->Prop) (m:Mp) (a:Act),ops.toList=pre++b ->
  FV P E R ops.toList b slot st k=some r->SI w F m st a->(∀ d w',ANi r k w F m st.heap st.frz d w'->Q .normal d cs w')->wpOpsS P ops Q (List.range' pre.length b.length) a cs w:=by
 intro b;induction b with
  |nil=>intro pre slot st w F m a _ h t s;exact s a w ⟨st,F,m,h,t,Ext.refl ..⟩
  |cons o b H=>
   intro pre slot st w F m a p h t s;simp only[FV]at h;have q:ops[pre.length]? = some o:=by rw[<- ASa,p];simp
   have c:ops.toList=(pre++[o])++b:=by grind
   have I:(pre++[o]).length=pre.length+1:=by simp
   rw[ARy,ATD];simp only[wpOpsS,q];obtain⟨st',f,y,z,M⟩:=Oz t h;rcases M with⟨A,N⟩|⟨A,O⟩
   rw[ARt A];obtain⟨v,e,S,_,T⟩:=Ej L o.op R _ _ _ _ _ _ _ N;have i:o.wp P a w (fun d w'=>wpOpsS P ops Q (List.range' (pre.length+1) b.length) d cs w') (fun e d w'=>Q e d cs w'):=by
    refine T w F m a o _ _ rfl rfl f.heap (fun x=>Ev f.tmps x) fun u w' U V J W => ?_;have j:=(f.go J).put W o.dst;have:=H (pre++[o]) _ _ w' U V (a.put o.dst u) c S j fun d l ⟨n,B,C,D,G,X⟩=>s d l ⟨n,B,C,D,G,by
     have K:=J.1;rw[y,z]at K;refine K.trans ?_;have:((st'.app e).put o.dst v).heap=Cp e st.heap/\((st'.app e).put o.dst v).frz=Eo e st.frz:=by cases o.dst<;>simp[St.put,St.app,y,z]
     grind⟩
    grind
   unfold Oper.wp at i;generalize (execOp a.eval o).run P w=res at i |-;split;simp[Oper.upon]at i;omega;rw[ARv (by simp[A])];have j:SI w F m (st'.put o.dst CK) (a.put o.dst undef):=f.put Pc o.dst;have:=H (pre++[o]) _ _ w F m (a.put o.dst undef) c O j fun d l ⟨n,B,C,D,G,X⟩=>s d l ⟨n,B,C,D,G,by
    have:(st'.put o.dst CK).heap=st.heap/\(st'.put o.dst CK).frz=st.frz:=by cases o.dst<;>simp[St.put,y,z]
    grind⟩
   grind
theorem HT.ext{w:World}{F:Nat->Prop}{m:Mp}{H:List Ob}{fz:List Bool}{w':World}{a:Nat->Prop}{b:Mp}{H':List Ob}{fz':List Bool}(x:HT H.length w F m H fz w' a b H' fz'):Ext w F m H fz w' a b H' fz':=
 ⟨x.os,x.tape,x.output,x.size,x.keep,x.sub,x.bnd,x.own,fun i o c d=>x.comp i o (BS c) c d⟩
theorem HT.ARQ{np:Nat}{w:World}{F:Nat->Prop}{m:Mp}{H:List Ob}{fz:List Bool}{w':World}{a:Nat->Prop}{b:Mp}{H':List Ob}{fz':List Bool}(x:HT np w F m H fz w' a b H' fz'):HT 0 w F m H fz w' a b H' fz':=
 ⟨x.os,x.tape,x.output,x.size,x.keep,x.sub,x.bnd,x.own,fun i o h=>absurd h (Nat.not_lt_zero _)⟩
theorem AAF(U:∀ g,BQ P g (E.spec g))(hL:EX E)(hP:Fu P E){R:Type}{r:R}{g:FuncId}{b:Func}{I:AV}{d:List AV}{H:List Ob}{fz:List Bool}{k:St->Option R}(hf:P.funcs[g]? = some b)(y:Rg P E h R b I d H fz k=some r):
  ∃ a,k a=some r/\HH P g/\∀ (w:World) (F:Nat->Prop) (m:Mp) (c:List Value) (u:FrameMode),HI w F m H fz->BA w F m H d c->((u = .returning/\I = .ifc none)\/∃ p,u = .panicking [C4 p]/\I = .ifc (some p)) ->
   CallsD P g c.toArray u w fun q f w'=>(∃ v,q = .returned v)/\settle f = .returning/\∃ j l,BO w F m H fz w' j l a.heap a.frz:=by
 unfold Rg at y;split at y;rename_i id ops i hb;split at y;cases y;rename_i o os s;split at y;cases y;rename_i hc;simp only[ARl]at hc;obtain⟨K,z,hres,L,hnm⟩:=hc;have z:=ASH z;have L:=ASI L;obtain⟨M,h1,h2⟩:=Xo U _ _ _ _ y;obtain⟨e,a,g1,_,g3⟩:=C' U hL hP (np:=M.heap.length) i 0 (LZ i 0 z) R _ _ r h1;have x:k a=some r/\(e = .normal\/e = .ret):=by grind
 refine⟨a,x.1,CW hf (by grind) (by grind),fun w F m c u hi hr hu => ?_⟩;have N:=BY hr;have V:SI w F m { tmps:=.of d b.ntmps,heap:=H,frz:=fz } { tmps:=c.toArray++Array.replicate (b.ntmps-c.toArray.size) undef,defers:=[] }:=by refine⟨fun t => ?_,?_,hi,rfl⟩;have:=dq hr (b.ntmps-d.length) t;simp only[ASl,N];exact this;simp[N,Tm.of];omega
 obtain⟨W,X⟩:=V.pad (Cu (o::os));refine callsD_of_wpS hf hb fun n cs O => ?_;refine wpS_seq (wpS_region ?_);have A:o.guard=none/\∃ args ts,o.op = .call { callee:=.builtin .recover,args:=args,argTypes:=ts }/\args.isEmpty=true:=by unfold isRec at K;grind
 obtain⟨hg,args,ts,A,Y⟩:=A;have B:ops.size=os.length+1:=by rw[<- ARz,s];rfl
 have h0:ops[0]? = some o:=by rw[<- ASa,s];rfl
 rw[B,ATW,ATD];simp only[wpOpsS,h0];rw[ARt (by simp[Region.wanted,hg])];have S:(execOp (Act.eval { tmps:=c.toArray++Array.replicate (b.ntmps-c.toArray.size) undef,defers:=[] }) o).run P w = .ok .recover w:=by
  have ha:args = #[]:=by grind
  subst ha;simp[execOp,A,resolve,invoke,builtin]
 rw[S];simp only
 have go:∀ (v:Value) (J:Frame) (f:FrameMode),Rep w F m ((St.pad { tmps:=.of d b.ntmps,heap:=H,frz:=fz } (Cu (o::os))).heap) I v->J = { n with mode:=f }->settle f = .returning ->
   wpOpsS P ops (Exit.thenS (i.wpS P (bodyPostS P b n cs fun q f w'=>(∃ v,q = .returned v)/\settle f = .returning/\∃ j l,BO w F m H fz w' j l a.heap a.frz)) (bodyPostS P b n cs fun q f w'=>(∃ v,q = .returned v)/\settle f = .returning/\∃ j l,BO w F m H fz w' j l a.heap a.frz))
    (List.range' 1 os.length) (Act.put { tmps:=c.toArray++Array.replicate (b.ntmps-c.toArray.size) undef,defers:=[] } o.dst v) (J::cs) w:=by
  intro v J f Z hc1 hst
  have hs3:=W.put Z o.dst
  have h3:FV P E St ops.toList os H.length ((St.pad { tmps:=.of d b.ntmps,heap:=H,frz:=fz } (Cu (o::os))).put o.dst I) some=some M:=by
   grind
  have:=rE (cs:=J::cs) U os [o] _ _ w F m _ (by grind) h3 hs3 (Q:=(Exit.thenS (i.wpS P (bodyPostS P b n cs fun q f w'=>(∃ v,q = .returned v)/\settle f = .returning/\∃ j l,BO w F m H fz w' j l a.heap a.frz)) (bodyPostS P b n cs fun q f w'=>(∃ v,q = .returned v)/\settle f = .returning/\∃ j l,BO w F m H fz w' j l a.heap a.frz))) fun a' w' hp => ?_
  ·omega
  ·obtain⟨st',j,l,e1,s1,x1⟩:=hp
   cases e1
   show i.wpS P _ a' (J::cs) w'
   refine wpS_of_wp (g3 w' j l a' _ s1 fun a2 T F2 m2 s2 x2 => ?_)
   have hx:Ext w F m H fz T F2 m2 a.heap a.frz:=by
    have hh:=Eu (St.pad { tmps:=.of d b.ntmps,heap:=H,frz:=fz } (Cu (o::os))) o.dst I
    rw[hh.1,hh.2]at x1
    exact X.trans (x1.trans x2.ext)
   have C:b.results.toList=[]:=by grind
   obtain⟨us,r1,_⟩:=K0 (P:=P) s2 (fn:=b) (vs:=[]) (by rw[C];rfl)
   have D:a2.defers=[]/\∃ f,(J::cs:List Frame) = { n with mode:=f }::cs/\∃ v,(results b a2.tmps).run P T = .ok v T/\((∃ v',Ending.returned v = .returned v')/\settle f = .returning/\∃ j l,BO w F m H fz T j l a.heap a.frz):=
    ⟨s2.defers,f,by rw[hc1],_,r1,⟨_,rfl⟩,hst,F2,m2,hx,s2.heap⟩
   rcases x.2 with rfl|rfl<;>exact D
 rcases hu with⟨rfl,rfl⟩|⟨p,rfl,rfl⟩
 have G:recoverD (n::cs)=none:=by simp[recoverD,O]
 rw[G];simp only;exact go .nilIface n .returning (by unfold Rep;rfl) (by cases n;grind) rfl;have G:recoverD (n::cs)=some (Jq (some p),{ n with mode:=.panicking [{ v:=Jq (some p),recovered:=true }] }::cs):=by simp[recoverD,O,C4]
 rw[G];simp only;exact go _ _ (.panicking [{ v:=Jq (some p),recovered:=true }]) (by unfold Rep;rfl) rfl rfl;grind
theorem AAD(L:∀ g,BQ P g (E.spec g))(M:EX E)(N:Fu P E){R:Type}{r:R}{v:Exit->St->Option R}{J:List Oper->Code->St->Option R}:∀ (m:Nat) (c:Code) (st:St),K1 P E h R m c st v J=some r ->
  (∃ e st',e≠.normal/\v e st'=some r/\ARN P 0 c st e st') \/
  (∃ id ops b st',J ops.toList b st'=some r/\nY m c=b/\∀ (w:World) (F:Nat->Prop) (m:Mp) (a:Act) (Q:Exit->Act->World->Prop),SI w F m st a ->
   (∀ i w' j k,SI w' j k st' i->HT 0 w F m st.heap st.frz w' j k st'.heap st'.frz->(Code.seq (.region id ops false) b).wp P Q i w')->c.wp P Q a w):=by
 intro m;induction m with
  |zero=>
   intro c st f;cases c with
    |seq a b=>cases a with
     |region id ops s=>cases s with
      |false=>
       simp only[K1]at f
       exact .inr ⟨id,ops,b,st,f,rfl,fun w F m a Q l n=>n a w F m l (HT.refl ..)⟩
      |true=>simp[K1]at f
     |_=>simp[K1]at f
    |_=>simp[K1]at f
  |succ m O=>
   intro c st f;cases c with
    |seq a b=>
     simp only[K1]at f;split at f;rename_i o;have o:=ASH o;obtain⟨e,p,S,_,x⟩:=C' L M N (np:=0) a 0 (LZ a 0 o) R _ _ r f;by_cases K:e = .normal;subst K;rcases O b p S with⟨T,q,y,z,U⟩|⟨id,ops,b',q,y,V,z⟩
     refine .inl ⟨T,q,y,z,fun w F m d Q l n=>wp_seq ?_⟩;refine x w F m d _ l fun i w' j k t u => ?_;exact U w' j k i Q t fun A B C D G H=>n A B C D G (u.trans H);refine .inr ⟨id,ops,b',q,y,V,fun w F m d Q l n=>wp_seq ?_⟩;refine x w F m d _ l fun i w' j k t u => ?_;exact z w' j k i Q t fun A B C D G H=>n A B C D G (u.trans H);have I:v e p=some r:=by grind
     refine .inl ⟨e,p,K,I,fun w F m d Q l n=>wp_seq ?_⟩;refine x w F m d _ l fun i w' j k t u => ?_;have:=n i w' j k t u;cases e<;>first|grind|exact this
     grind
    |_=>simp[K1]at f
variable {g0:FuncId} {fn:Func} {c:Code}
theorem gf{ops:List Oper}{g:FuncId}{cs:List Operand}{t:Tmp}(h:gg ops=some (g,cs,t)):∃ a b,ops=[a,b]/\a.guard=none/\a.dst=some t/\(∃ d fst,a.op = .makeFunc (.func g) fst d/\fst.toList=[]/\d.toList=cs) /\
  b.guard=none/\b.dst=none/\∃ args e,b.op = .defer { callee:=.value (.tmp t),args:=args,argTypes:=e }/\args.toList=[]:=by
 unfold gg at h;split at h;rename_i a b;split at h;rename_i j first i t' k l m
 split at h;rename_i cl n o p;split at h;rename_i q r;split at h;rename_i f;simp only[ARl]at f;simp only[ARi,ARw]at h;obtain⟨rfl,rfl,rfl⟩:=h;have:=ASH f.1;subst this;obtain⟨callee,args,e⟩:=cl;grind;grind;grind;grind;grind;grind
theorem rC{np:Nat}{H:List Ob}{v:AV}(h:(vo np v&&Y9 H v)=true):∃ i cs,v = .ptr i 0/\i<np/\H[i]? = some (.box cs):=by rw[ARl]at h;obtain⟨a,b⟩:=h;unfold vo at a;split at a;rename_i i;refine⟨i,?_⟩;simp only[ARm]at a;simp only[Y9,FZ]at b;grind;grind
theorem ADF{np:Nat}{w w':World}{F g:Nat->Prop}{m j:Mp}{H H':List Ob}{fz fz':List Bool}(x:HT np w F m H fz w' g j H' fz'):∀ {vs:List AV} {us:List Value},(vs.all fun a=>vo np a&&Y9 H a)=true->vs.all (Y9 H')=true->BA w F m H vs us->BA w' g j H' vs us:=by
 intro vs;induction vs with
  |nil=>intro us _ _ h;unfold BA at *;exact h
  |cons v vs o=>
   intro us b d h;simp only[List.all_cons]at b d;rw[ARl]at b d;unfold BA at h |-;obtain⟨u,e,rfl,k,p⟩:=h;refine⟨u,e,rfl,?_,o b.2 d.2 p⟩;obtain⟨i,cs,rfl,hi,l⟩:=rC b.1;have n:=d.1;simp only[Y9,FZ]at n;split at n
   ·rename_i q f;unfold Rep Ge at k |-;rw[l]at k;rw[f];rcases x.comp i _ hi l (by simp)with r|⟨_,o',r,s,t,_⟩
    all_goals grind
   grind
theorem mE(hE:∀ g,BQ P g (E.spec g))(hL:EX E)(hP:Fu P E)(hf:P.funcs[g0]? = some fn)(hb:fn.body=some c)(hc:HH P g0)
  {m:Nat} {na:Nat} (hna:na<=fn.ntmps) {s outs:A1} {rs:List RS} {hA hB hC:Hints} {j:A1} {npB:Nat} {f:BV (leaves s)->Option (BV (leaves outs))} (hfun:∀ x,f x=Rf P E fn m s outs rs hA hB hC j npB x)
  (hl:∀ [DfI],Bu P npB hB (nY m c) 0):BQ P g0 (BU 0 na s outs rs f):=by
 intro R args H fz slot k r K;simp only[BU]at K;split at K;cases K;rename_i x bs fr O;split at K;cases K;rename_i Q;simp only[ARl,ARm]at Q;obtain⟨⟨⟨l,hbl⟩,hal⟩,hri,hro⟩:=Q;split at K;cases K;rename_i y hy;generalize S:DE (DN outs) (bs.take 0) slot=ids at K;generalize hgv:given (bs.drop 0)=gv at K;obtain⟨e,h4,he1,he2,h5,hok,hnd,hfl⟩:=Q0 K;refine⟨_,e,h4,fun R' k' => ?_,hc,fun w F mm vals hi hr => ?_⟩;simp only[BU,O,l,hbl,hal,hri,hro,hy,ARx,ASJ,S,hgv];grind;rw[hfun x]at hy;unfold Rf at hy;rw[hb]at hy;simp only at hy;refine calls_of_wp_defers hf hb ?_;obtain⟨F2,m2,gA,invA,hsi⟩:=O9 hi hr hal hna O
 have fin:∀ (w':World) (o:Nat->Prop) (q:Mp) (st':St) (tm:Array Value),SI w' o q st' { tmps:=tm,defers:=[] }->HT 0 w F2 m2 (encode fn.ntmps s x).heap (encode fn.ntmps s x).frz w' o q st'.heap st'.frz->finish 0 P fn outs rs st'=some y ->
   Leaves P fn tm (fun en w'=>∃ u,en = .returned u/\∃ o q,BO w F mm H fz w' o q (Cp e H) (Eo e fz)/\Rep w' o q (Cp e H) (single (Eb rs (I9 ids (encode (cellsOf rs) outs y).tmps.list))) u) [] .returning w':=by
  intro w' o q st' tm hs x1 hfin
  obtain⟨vs,tm',bs',fr',hvs,htm,hd',hp⟩:=TB hfin
  rw[ARl]at hp
  obtain⟨us,r1,r2⟩:=K0 hs hvs
  exact⟨_,r1,_,rfl,Y7 hi gA invA l hri hro S hgv he1 he2 hok hnd hfl hs.heap x1 r2 htm hd' hp.1⟩
 rcases AAD hE hL hP m c _ hy with⟨ex,st',M,hke,A⟩|⟨id,ops,b,st',i,hcb,A⟩
 have hex:ex = .ret/\finish 0 P fn outs rs st'=some y:=by grind
 obtain⟨rfl,hke⟩:=hex;refine A w F2 m2 _ _ hsi fun d w' o q T x1 => ?_;show Leaves P fn d.tmps _ d.defers .returning w';rw[show d.defers=[]from T.defers];exact fin w' o q st' d.tmps ⟨T.tmps,T.size,T.heap,rfl⟩ x1 hke;split at i;cases i;rename_i g cs t hdf;split at i;cases i;rename_i fnC hfC;split at i;cases i;rename_i v hv;split at i;cases i;rename_i B;rw[ARl,ARl]at B;obtain⟨⟨htn,hnt⟩,hcap⟩:=B;refine A w F2 m2 _ _ hsi fun d w' o q T x1 => ?_;obtain⟨o0,o1,C,hg0,hd0,⟨a,fst,hop0,hfst,hcs⟩,hg1,hd1,U,ts1,hop1,hargs1⟩:=gf hdf;have V:ops.size=2:=by rw[<- ARz,C];rfl
 have h0:ops[0]? = some o0:=by rw[<- ASa,C];rfl
 have h1:ops[1]? = some o1:=by rw[<- ASa,C];rfl
 have W:fst = #[]:=by grind
 have G:U = #[]:=by grind
 subst W;subst G;subst hcs;have X:(execOp d.eval o0).run P w' = .ok (.value (.func (.func g) #[] (a.map d.eval))) w':=by simp[execOp,hop0,Instr.makeFunc]
 have hcr:BA w' o q st'.heap (a.toList.map (BX st'.tmps)) (a.map d.eval).toList:=ZC (fun x=>Ev T.tmps x) a;have hrc:Rep w' o q st'.heap (.clo g (a.toList.map (BX st'.tmps))) (.func (.func g) #[] (a.map d.eval)):=by unfold Rep;grind
 have s2:=T.put hrc (some t);obtain⟨F3,m3,s3,x3⟩:=GV s2 hv;have hev:(d.put (some t) (.func (.func g) #[] (a.map d.eval))).eval (.tmp t) = .func (.func g) #[] (a.map d.eval):=by
  have h1:t<d.tmps.size:=by
   have h2:(st'.put (some t) (.clo g (a.toList.map (BX st'.tmps)))).tmps.n=fn.ntmps:=by unfold decode at hv;grind
   rw[<- T.size];rw[show st'.tmps.n=fn.ntmps from h2];simp_all
  simp[Act.eval,Act.put,h1]
 have Y:(execOp (d.put (some t) (.func (.func g) #[] (a.map d.eval))).eval o1).run P w' = .ok (.defer { target:=.fn (.func g) (a.map d.eval),args:=#[] }) w':=by simp[execOp,hop1,resolve,hev,Deferred.ofValue]
 refine wp_seq (wp_region ?_);rw[V];refine Kj h0 hg0 (Cm X ?_);rw[hd0];refine Kj h1 hg1 ?_;unfold Oper.wp;rw[Y,Oper.upon_defer,hd1];have e0:(d.put (some t) (.func (.func g) #[] (a.map d.eval))).defers=[]:=s2.defers;have s3t:=s3.tmps;have s3s:=s3.size;have s3h:=s3.heap;letI D:DfI:=⟨[{ target:=.fn (.func g) (a.map d.eval),args:=#[] }]⟩
 have s4:@SI D w' F3 m3 (encode fn.ntmps j v) { (d.put (some t) (.func (.func g) #[] (a.map d.eval)))with defers:={ target:=.fn (.func g) (a.map d.eval),args:=#[] }::(d.put (some t) (.func (.func g) #[] (a.map d.eval))).defers }:=
  @SI.mk D _ _ _ _ _ s3t s3s s3h (by rw[e0];rfl)
 obtain⟨ex,N,g1,_,g3⟩:=C' hE hL hP b 0 (hcb▸hl) _ _ _ _ i;have Z:BA w' F3 m3 (encode fn.ntmps j v).heap (a.toList.map (BX (encode fn.ntmps j v).tmps)) (a.map d.eval).toList:=by
  have h1:a.map d.eval=a.map (d.put (some t) (.func (.func g) #[] (a.map d.eval))).eval:=by
   apply Array.map_congr_left;intro z hz;rw[AR1]at hnt;have:=hnt z (by grind);cases z with
    |tmp t'=>
     have M:t≠t':=by rintro rfl;simp[AQ2]at this
     simp[Act.eval,Act.put,Array.getElem?_setIfInBounds_ne M]
    |_=>rfl
  rw[h1];exact ZC (fun x=>Ev s3t x) a
 refine g3 w' F3 m3 _ _ s4 fun L w2 F4 m4 s5 x5 => ?_;split at g1;cases g1;rename_i hal2
 have closing:∀ (rv:AV) (u:FrameMode),u≠.run->((u = .returning/\rv = .ifc none)\/∃ p,u = .panicking [C4 p]/\rv = .ifc (some p)) ->
   Rg P E hC _ fnC rv (a.toList.map (BX (encode fn.ntmps j v).tmps)) N.heap N.frz (fun I=>finish 0 P fn outs rs { tmps:=N.tmps,heap:=I.heap,frz:=I.frz })=some y ->
   Leaves P fn L.tmps (fun en w'=>∃ u,en = .returned u/\∃ o q,BO w F mm H fz w' o q (Cp e H) (Eo e fz)/\Rep w' o q (Cp e H) (single (Eb rs (I9 ids (encode (cellsOf rs) outs y).tmps.list))) u) [{ target:=.fn (.func g) (a.map d.eval),args:=#[] }] u w2:=by
  intro rv u M hmode hclo
  obtain⟨I,k1,kc,k2⟩:=AAF hE hL hP hfC hclo
  refine leaves_cons (f:=g) (args:=a.map d.eval) M (by simp[invoke,kc _ w2]) ?_
  have J:=k2 w2 F4 m4 _ u s5.heap (ADF x5 hcap hal2 Z) hmode
  rw[ATV]at J
  refine J.mono fun en u' w3 ⟨⟨v',hen⟩,hset,F5,m5,hgo⟩ => ?_
  subst hen
  show Leaves P fn L.tmps _ [] (settle u') w3
  rw[hset]
  refine fin w3 F5 m5 { tmps:=N.tmps,heap:=I.heap,frz:=I.frz } L.tmps (@SI.mk noDf _ _ _ _ _ (fun t=>hgo.1.rep s5.heap (s5.tmps t)) s5.size hgo.2 rfl) ?_ k1
  exact x1.trans (x3.trans (x5.ARQ.trans (hgo.1.toN 0)))
 have hdf2:L.defers=[{ target:=.fn (.func g) (a.map d.eval),args:=#[] }]:=s5.defers;cases ex with
  |normal=>show Leaves P fn L.tmps _ L.defers .returning w2;grind
  |ret=>show Leaves P fn L.tmps _ L.defers .returning w2;grind
  |panic ch=>simp only at g1;split at g1;rename_i p hp;have:=vJ hp;simp only[Exit.panic.injEq]at this;subst this;show Leaves P fn L.tmps _ L.defers (.panicking [C4 p]) w2;grind;grind
  |_=>grind
end
theorem C6[DfI]{P:Program}{np:Nat}{h:Hints}:∀ (c:Code) (n:Nat),loops c=0->Bu P np h c n:=by
 intro c;induction c with
  |seq a b e f=>intro n d;simp only[loops]at d;exact⟨e n (by omega),f _ (by omega)⟩
  |cond c a b e f=>intro n d;simp only[loops]at d;exact⟨e n (by omega),f _ (by omega)⟩
  |block id c g=>intro n d;simp only[loops]at d;exact g n d
  |scope c g=>intro n d;simp only[loops]at d;exact g n d
  |loop c g=>intro n d;simp only[loops]at d;omega
  |_=>intro n _;trivial
def Sf[DfI](P:Program)(np:Nat)(h:Hints):List (Nat×Code)->Prop
 |[]=>True
 |p::l=>I7 P np (.loop p.2) (h.loop p.1)/\Sf P np h l
theorem ZR[DfI]{P:Program}{np:Nat}{h:Hints}:∀ {a b:List (Nat×Code)},Sf P np h (a++b)->Sf P np h a/\Sf P np h b:=by
 intro a;induction a with
  |nil=>exact fun h=>⟨trivial,h⟩
  |cons p a c=>intro b h;exact⟨⟨h.1,(c h.2).1⟩,(c h.2).2⟩
theorem iN[DfI]{P:Program}{np:Nat}{h:Hints}:∀ (c:Code) (n:Nat),Sf P np h (CZ c n)->Bu P np h c n:=by
 intro c;induction c with
  |seq a b e f=>intro n d;have:=ZR d;exact⟨e n this.1,f _ this.2⟩
  |cond c a b e f=>intro n d;have:=ZR d;exact⟨e n this.1,f _ this.2⟩
  |block id c g=>intro n d;exact g n d
  |scope c g=>intro n d;exact g n d
  |loop c g=>intro n d;exact d.1
  |_=>intro n _;trivial
theorem TQ[DfI]{P:Program}{np:Nat}{h:Hints}{c:Code}{n:Nat}{l:List (Nat×Code)}(e:CZ c n=l)(a:Sf P np h l):Bu P np h c n:=iN c n (by grind)
def Qb:List (Nat×List (List Nat))->Nat->List (List Nat)
 |[],_=>[]
 |(k,x)::l,n=>match Nat.beq k n with
  |true=>x
  |false=>Qb l n
end Go.Pev
end
section
namespace Go.Pev
open Go.RowKit
noncomputable section
noncomputable def M0(n:Nat):Spec:=fun R args _ _ _ k=>
 match args with
 |[.data (.slice e) xs]=>match decide (e.size=n)with
  |true=>k (.clip e xs) {}
  |false=>none
 |_=>none
structure dP(P:Program)(fn:Func)(T e:TypeId)(n:Nat):Prop where
 body:fn.body=some (.seq (.region 0 #[CR fn 0 0] false) (.seq (.region 1 #[CR fn 1 0,CR fn 1 1,CR fn 1 2,CR fn 1 3,CR fn 1 4,CR fn 1 5,CR fn 1 6] false) .ret))
 nt:fn.ntmps=9
 res:fn.results = #[.tmp 2]
 d:(CR fn 0 0).dst=some 2/\(CR fn 1 0).dst=some 3/\(CR fn 1 1).dst=some 4/\(CR fn 1 2).dst=some 5/\(CR fn 1 3).dst=some 6/\(CR fn 1 4).dst=some 7/\(CR fn 1 5).dst=some 8/\(CR fn 1 6).dst=some 2
 g:(CR fn 0 0).guard=none/\(CR fn 1 0).guard=none/\(CR fn 1 1).guard=none/\(CR fn 1 2).guard=none/\(CR fn 1 3).guard=none/\(CR fn 1 4).guard=none/\(CR fn 1 5).guard=none/\(CR fn 1 6).guard=none
 o00:(CR fn 0 0).op = .assign (.const (.slice none 0 0))
 o10:(CR fn 1 0).op = .move (.tmp 0)
 o11:(CR fn 1 1).op = .move (.tmp 0)
 o12:(CR fn 1 2).op = .call { callee:=.builtin .len,args:=#[.tmp 4],argTypes:=#[T] }
 o13:(CR fn 1 3).op = .move (.tmp 0)
 o14:(CR fn 1 4).op = .call { callee:=.builtin .len,args:=#[.tmp 6],argTypes:=#[T] }
 o15:(CR fn 1 5).op = .slice T (.tmp 3) none (some (.tmp 5)) (some (.tmp 7))
 o16:(CR fn 1 6).op = .assign (.tmp 8)
 sl:P.underlying T=some (.slice e)
 sz:CD P e=some n
section
variable {P:Program} {g:FuncId} {fn:Func} {T e:TypeId} {n:Nat}
theorem ANO (hs : dP P fn T e n) (hf : P.funcs[g]? = some fn) (hn : (fn.name == "runtime.NumGoroutine") = false) : BQ P g (M0 n) := by
 intro R args H fz slot k r hk;unfold M0 at hk;split at hk;rename_i t xs;split at hk;rename_i hsz;refine⟨_,_,hk,fun R' k'=>by simp only[M0,hsz],CW hf (by rw[hs.body];rfl) hn,fun w F m vals hi hr => ?_⟩;simp only[ARm]at hsz;obtain⟨i,hi0,hsz'⟩:=Bs hs.sz;unfold BA at hr;obtain⟨v,vs',rfl,hrv,hnil⟩:=hr;unfold BA at hnil;subst hnil;have hrv:Dat w F (.slice t) xs [v]:=hrv;obtain⟨a,cap,e1,e2,e3⟩:=hrv;simp only[AR5,ATq]at e1;subst e1;refine calls_of_wp hf hs.body ?_;obtain⟨d0,d1,d2,d3,d4,d5,d6,d7⟩:=hs.d;obtain⟨g0,g1,g2,g3,g4,g5,g6,g7⟩:=hs.g;have hres:∀ (tm:Array Value) (w0:World),(results fn tm).run P w0 = .ok (tm.getD 2 undef) w0:=fun tm w0=>by simp[results,hs.res]
 refine wp_seq (wp_region ?_);simp only[ASl,ARy,ASD,ASV,ATi,ASO];refine Cz (by rfl) g0 (Cm (G7 hs.o00) ?_);refine wp_seq (wp_region ?_);simp only[ASl,ARy,ASD,ASV,ATi,ASO,ASG];refine Cz (by rfl) g1 (Cm (KR hs.o10) ?_);refine Cz (by rfl) g2 (Cm (KR hs.o11) ?_);refine Cz (by rfl) g3 (Cm (u:=.int .i64 (List.length (α:=t.den) xs)) (w':=w) (by simp[execOp,hs.o12,resolve,invoke,builtin,Act.eval,Act.put,d0,d1,d2,hs.nt,CP hs.sl]) ?_);refine Cz (by rfl) g4 (Cm (KR hs.o13) ?_);refine Cz (by rfl) g5 (Cm (u:=.int .i64 (List.length (α:=t.den) xs)) (w':=w) (by simp[execOp,hs.o14,resolve,invoke,builtin,Act.eval,Act.put,d0,d1,d2,d3,d4,hs.nt,CP hs.sl]) ?_);have hrun:=MA (P:=P) (w:=w) (kh:=.i64) (km:=.i64) hs.sl hi0 a (List.length (α:=t.den) xs) cap (l:=0) (h:=(List.length (α:=t.den) xs:Int)) (.inl ⟨rfl,rfl⟩) (by omega) (by omega) (by omega);refine Cz (by rfl) g6 (Cm (u:=.slice a (List.length (α:=t.den) xs) (List.length (α:=t.den) xs)) (w':=w) (by simp[execOp,hs.o15,Act.eval,Act.put,d0,d1,d2,d3,d4,d5,hs.nt,hrun];intro _;cases a<;>rfl) ?_)
 refine Cz (by rfl) g7 (Cm (G7 hs.o16) ?_);refine wp_ret ?_;refine⟨by simp[Act.put,d0,d1,d2,d3,d4,d5,d6,d7],_,hres _ _,?_⟩;refine⟨_,rfl,F,m,BO.refl hi,?_⟩;have:Rep w F m H (.clip t xs) (.slice a (List.length (α:=t.den) xs) (List.length (α:=t.den) xs)):=by unfold Rep;exact⟨⟨a,_,rfl,ARo _,e3⟩,a,rfl⟩
 show Rep _ _ _ H _ _;simpa [Act.put,Act.eval,d0,d1,d2,d3,d4,d5,d6,d7,hs.nt]using this;grind;grind
theorem Mz(n:Nat):Gf (M0 n):=fun _ _ _ _ _ _ _ _ _=>rfl
end
abbrev Tab:=Nat->A1×BB
def EO[Lk](P:Program)(E:Env)(np e:Nat)(d:Tab):Code->Nat->Hints->Hints
 |.seq a b,n,h=>EO P E np e d a n (EO P E np e d b (n+loops a) h)
 |.cond _ a b,n,h=>EO P E np e d a n (EO P E np e d b (n+loops a) h)
 |.block _ c,n,h=>EO P E np e d c n h
 |.scope c,n,h=>EO P E np e d c n h
 |.loop c,n,h=>{ fp:=h.fp,loop:=fun m=>match Nat.beq m n with
   |true=>K9 np e (d n).1 (d n).2 (roundOf P E (EO P E np e d c (n+1) h) (n+1) np e c (d n).1 (d n).2)
   |false=>(EO P E np e d c (n+1) h).loop m }
 |_,_,h=>h
theorem YP(P:Program)(E:Env)(np j:Nat)(f:Tab):∀ (c:Code) (n:Nat) (h:Hints) (m:Nat),(m<n\/n+loops c<=m)->(EO P E np j f c n h).loop m=h.loop m:=by
 intro c;induction c with
  |seq a b g i=>intro n h m d;simp only[EO,loops]at *;grind
  |cond c a b g i=>intro n h m d;simp only[EO,loops]at *;grind
  |block id c e=>intro n h m d;exact e n h m d
  |scope c e=>intro n h m d;exact e n h m d
  |loop c e=>
   intro n h m d;simp only[EO,loops]at *;have:Nat.beq m n=false:=by
    cases k:Nat.beq m n with
     |true=>have:=ASH k;omega
     |false=>rfl
   grind
  |_=>intro n h m d;rfl
theorem N7{P:Program}{np:Nat}{h l:Hints}:∀ (c:Code) (n:Nat),(∀ m,n<=m->m<n+loops c->l.loop m=h.loop m)->Bu P np h c n->Bu P np l c n:=by
 intro c;induction c with
  |seq a b f g=>intro n d e;simp only[loops]at d;exact⟨f n (fun m i k=>d m i (by omega)) e.1,g _ (fun m i k=>d m (by omega) (by omega)) e.2⟩
  |cond c a b f g=>intro n d e;simp only[loops]at d;exact⟨f n (fun m i k=>d m i (by omega)) e.1,g _ (fun m i k=>d m (by omega) (by omega)) e.2⟩
  |block id c j=>intro n d e;exact j n d e
  |scope c j=>intro n d e;exact j n d e
  |loop c j=>intro n d e;simp only[loops]at d;unfold Bu at *;grind
  |_=>intro n d e;trivial
theorem ABr{P:Program}{E:Env}(j:BE P E){np i:Nat}{d:Tab}:∀ (c:Code) (n:Nat) (h:Hints),Bu P np (EO P E np i d c n h) c n:=by
 intro c;induction c with
  |seq a b e f=>intro n h;refine⟨e n _,?_⟩;refine N7 b _ (fun m k l => ?_) (f (n+loops a) h);simp only[EO];exact YP P E np i d a n _ m (by omega)
  |cond c a b e f=>intro n h;refine⟨e n _,?_⟩;refine N7 b _ (fun m k l => ?_) (f (n+loops a) h);simp only[EO];exact YP P E np i d a n _ m (by omega)
  |block id c g=>intro n h;exact g n h
  |scope c g=>intro n h;exact g n h
  |loop c g=>intro n h;unfold Bu;simp only[EO];rw[show Nat.beq n n=true from Nat.beq_refl n];exact P9 j (fun _=>rfl) (g (n+1) h)
  |_=>intro n h;trivial
def gM{R:Type}(n:Int)(k:Int->R):R:=match n with
 |.ofNat m=>nf m fun m=>k (.ofNat m)
 |.negSucc m=>nf m fun m=>k (.negSucc m)
def R8{α:Type}(f:(R:Type)->α->(α->R)->R):List α->(R:Type)->(List α->R)->R
 |[],_,k=>k []
 |x::xs,R,k=>f R x fun x=>R8 f xs R fun xs=>k (x::xs)
def Mj:(t:Ty)->(R:Type)->t.den->(t.den->R)->R
 |.unit,_,_,k=>k ()
 |.bool,_,b,k=>match b with
  |true=>k true
  |false=>k false
 |.int _,_,n,k=>gM n k
 |.slice e,R,xs,k=>R8 (Mj e) xs R k
 |.prod a b,R,d,k=>Mj a R d.1 fun x=>Mj b R d.2 fun y=>k (x,y)
 |.arr _ e,R,xs,k=>R8 (Mj e) xs R k
 |.nul _,_,_,k=>k ()
 |.mapi _ e,R,xs,k=>R8 (fun R (p:Int×e.den) k=>gM p.1 fun i=>Mj e R p.2 fun y=>k (i,y)) xs R k
def Bx:(a:List Ty)->(R:Type)->BV a->(BV a->R)->R
 |[],_,_,k=>k ()
 |t::a,R,d,k=>Mj t R d.1 fun x=>Bx a R d.2 fun y=>k (x,y)
theorem cX{R:Type}(n:Int)(k:Int->R):gM n k=k n:=by cases n<;>simp only[gM,MM]
theorem R7{α:Type}{f:(R:Type)->α->(α->R)->R}(a:∀ R x k,f R x k=k x):∀ (xs:List α) (R:Type) (k:List α->R),R8 f xs R k=k xs:=by
 intro xs;induction xs with
  |nil=>intro R k;rfl
  |cons x xs b=>intro R k;simp only[R8,a,b]
theorem AB7:∀ (t:Ty) (R:Type) (d:t.den) (k:t.den->R),Mj t R d k=k d:=by
 intro t;induction t with
  |unit=>intro R d k;rfl
  |bool=>intro R d k;cases d<;>rfl
  |int j=>intro R d k;exact cX _ _
  |slice e c=>intro R d k;exact R7 c _ _ _
  |prod a b f g=>intro R d k;simp only[Mj,f,g]
  |arr n e c=>intro R d k;exact R7 c _ _ _
  |nul e=>intro R d k;rfl
  |mapi j e c=>intro R d k;exact R7 (fun R x k=>by simp only[cX,c]) _ _ _
theorem BN:∀ (a:List Ty) (R:Type) (d:BV a) (k:BV a->R),Bx a R d k=k d:=by
 intro a;induction a with
  |nil=>intro R d k;rfl
  |cons t a b=>intro R d k;simp only[Bx,AB7,b]
structure Row where
 g:FuncId
 k:Nat:=0
 np:Nat:=0
 na:Nat:=0
 fl:Nat:=0
 clo:Option (Nat×FuncId):=none
 its:A1:=[]
 os:BB:=[]
 rs:List RS:=[]
 fp:List (Nat×List (List Nat)):=[]
 tab:List (Nat×A1×BB):=[]
def AIK{α:Type}(d:α):List (Nat×α)->Nat->α
 |[],_=>d
 |p::l,n=>match Nat.beq p.1 n with
  |true=>p.2
  |false=>AIK d l n
def Row.outs(r:Row):A1:=match r.os with
 |[]=>[]
 |o::_=>o.2
def Row.mark(r:Row)(i:Nat):Bool:=Nat.testBit r.fl i
def Row.hint[Lk](r:Row)(P:Program)(E:Env)(fn:Func):Hints:=
 EO P E r.np fn.ntmps (AIK ([],[]) r.tab) (Bz fn) 0 { fp:=AIK [] r.fp }
def Row.loc(r:Row):Bool:=TK r.its&&(Nat.ble (DN r.outs) 4 && !r.mark 3)
def Row.FY(r:Row):Bool:=S5 r.its&&Nat.ble (DN r.outs) 4
def Row.call(r:Row)(f:BV (leaves r.its)->Option (BV (leaves r.outs))):Spec:=BU r.np r.na r.its r.outs r.rs f
def Row.self[Lk](r:Row)(P:Program)(E:Env)(fn:Func):BV (leaves r.its)->Option (BV (leaves r.outs)):=
 Da r.np P E (r.hint P E fn) fn r.its r.outs r.rs
def Row.put[Lk](r:Row)(E:Env)(s:Spec):Env:=
 match r.clo with
 |none=>E.ext r.g r.loc r.FY (match r.mark 3 with
  |true=>Gy s
  |false=>s)
 |some (i,c)=>E.Tl r.g i c (match r.mark 3 with
  |true=>Gy s
  |false=>s)
def Row.okF(r:Row)(fn:Func):Bool:=
 fn.body.isSome && (!(fn.name == "runtime.NumGoroutine") && (Nat.ble r.na fn.ntmps && (match r.k with
  |1=>Nat.beq (loops (Bz fn)) 0
  |_=>true)&&(match r.clo with
  |none=>true
  |some _=>r.FY)))
theorem Row.AFf{P:Program}{E:Env}{r:Row}(e:BE P E){f:BV (leaves r.its)->Option (BV (leaves r.outs))}(j:BQ P r.g (r.call f))(k:(match r.clo with
  |none=>true
  |some _=>r.FY)=true):BE P (r.put E (r.call f)):=by
 have a:r.FY=true->Fv (match r.mark 3 with
  |true=>Gy (r.call f)
  |false=>r.call f):=by
  intro h
  simp only[Row.FY,ARl]at h
  cases r.mark 3 with
  |true=>exact AKR h.1 h.2
  |false=>exact CM h.1 h.2
 have b:BQ P r.g (match r.mark 3 with
  |true=>Gy (r.call f)
  |false=>r.call f):=by
  cases r.mark 3 with
  |true=>exact jg j
  |false=>exact j
 unfold Row.put;split;refine Env.CA e b (fun h => ?_) a;simp only[Row.loc,ARl]at h;have l:r.mark 3=false:=by grind
 rw[l];exact Hd h.1 h.2.1;rename_i i c d;rw[d]at k;exact Env.Qe e b (a k)
theorem Row.ba {P : Program} {E : Env} {r : Row} {fn : Func} (hE : BE P E) (hf : P.funcs[r.g]? = some fn) (hb : fn.body.isSome = true) (hn : (fn.name == "runtime.NumGoroutine") = false) (ha : Nat.ble r.na fn.ntmps = true)
  {f:BV (leaves r.its)->Option (BV (leaves r.outs))} (he:∀ x,f x=r.self P E fn x):BQ P r.g (r.call f):=
 Gc hE hf hb hn ha he (ABr hE _ _ _)
variable {P:Program} {E:Env} {r:Row} {fn:Func}
def Row.ev[Lk](r:Row)(E:Env):Env:={ E with keep:=r.mark 0,rows:=r.mark 1,arrs:=r.mark 2 }
def Row.DH[Lk](r:Row)(E:Env)(f:BV (leaves r.its)->Option (BV (leaves r.outs))):Env:=r.put E (r.call f)
theorem Row.Bg(r:Row)(b:BE P E)(c:P.funcs[r.g]? = some fn){f d:BV (leaves r.its)->Option (BV (leaves r.outs))}(e:∀ x,f x=d x)
  (a:r.okF fn=true:=by kernel_rfl) (hd:∀ x,d x=r.self P (r.ev E) fn x:=by intro _;kernel_rfl):BE P (r.DH E f):=by simp only[Row.okF,ARl,ASk]at a;obtain⟨h,i,⟨j,l⟩,k⟩:=a;exact Row.AFf b (Row.ba (E:=r.ev E) b c h i j fun x=>(e x).trans (hd x)) k
structure Chn(P:Program)where
  e:[Lk]->Env
  h:BE P e
def Chn.g{P:Program}{fn:Func}(c:Chn P)(r:Row)(f:[Lk]->BV (leaves r.its)->Option (BV (leaves r.outs)))(i:P.funcs[r.g]? = some fn){d:BV (leaves r.its)->Option (BV (leaves r.outs))}(k:∀ x,f x=d x)(a:r.okF fn=true:=by kernel_rfl)(b:∀ x,d x=r.self P (r.ev c.e) fn x:=by intro _;kernel_rfl):Chn P:=⟨r.DH c.e f,Row.Bg r c.h i k a b⟩
structure Ma{α β:Type}(f:α->β)where
 d:α->β
 h:∀ v,f v=d v
def Row.ARG[Lk](r:Row)(E:Env)(s:BV (leaves r.its)->Option (BV (leaves r.outs))):Env:=E.ext r.g (TK r.its&&Nat.ble (DN r.outs) 4) r.FY (r.call s)
structure Mr[Lk](r:Row)(P:Program)(E:Env)(fn:Func)where
 d:(BV (leaves r.its)->Option (BV (leaves r.outs)))->BV (leaves r.its)->Option (BV (leaves r.outs))
 h:∀ s v,d s v=r.self P (r.ARG E s) fn v
def Row.rf{α β:Type}(d:(α->Option β)->α->Option β):Nat->α->Option β
 |0,_=>none
 |n+1,v=>d (rf d n) v
theorem Row.AM7(r:Row)(b:BE P E)(m:Mr r P E fn)(e:P.funcs[r.g]? = some fn)(n:Nat){f:BV (leaves r.its)->Option (BV (leaves r.outs))}(c:∀ x,f x=Row.rf m.d n x)
  (a:r.okF fn=true:=by kernel_rfl):BE P (r.DH E f):=by
 simp only[Row.okF,ARl,ASk]at a;obtain⟨i,j,⟨k,p⟩,l⟩:=a;refine Row.AFf b ?_ l;rw[show f=Row.rf m.d n from funext c];clear c f;induction n with
  |zero=>exact FK fun _=>rfl
  |succ n o=>refine Row.ba (Env.CA b o (fun h => ?_) fun h => ?_) e i j k fun _=>m.h _ _;simp only[ARl]at h;exact Hd h.1 h.2;simp only[Row.FY,ARl]at h;exact CM h.1 h.2
end
end Go.Pev
end
section
namespace Go.Pev
open Go.Proofs
noncomputable section
abbrev AMA:Row:=⟨247,0,0,1,0,none,LA,[(.ret,BM)],A4,[],[]⟩
def xf[Lk]:Env:=Env.none.ext 247 true true (BU 0 1 LA BM A4 AN3)
theorem u7:BE Tryz.prog xf:=Row.Bg AMA Env.ALt Tryz.func247 AHH
def AHS:=Chn.g ⟨xf,u7⟩ ⟨29,0,0,2,0,none,KP,[(.ret,BH)],A4,[],[(0,ABi,Rv)]⟩ Jp Tryz.func29 cP
def AD3:=Chn.g AHS ⟨123,0,0,1,0,none,BM,[(.ret,BH)],A4,[],[]⟩ OB Tryz.func123 bA
def AQg:=Chn.g AD3 ⟨173,0,0,2,0,none,J4,[(.ret,BH)],A4,[],[]⟩ tin Tryz.func173 AEO
def AOW:=Chn.g AQg ⟨268,0,0,3,0,none,pZ,[(.ret,BM)],A4,[],[]⟩ AEV Tryz.func268 vR
def AD2:=Chn.g AOW ⟨209,0,0,2,0,none,J4,[(.ret,AD1)],PT,[],[]⟩ dg Tryz.func209 az
def AKD:=Chn.g AD2 ⟨170,0,0,1,0,none,BM,[(.ret,AKC)],vN,[],[(0,AEF,AEE)]⟩ vO Tryz.func170 jX
def AHW:=Chn.g AKD ⟨137,0,0,2,0,none,MT,[(.ret,BM)],A4,[],[(0,ABk,FL)]⟩ MU Tryz.func137 R0
def nU:=Chn.g AHW ⟨231,0,0,2,0,none,MT,[(.ret,BH)],A4,[],[]⟩ GW Tryz.func231 Qt
def APU:=Chn.g nU ⟨125,0,0,1,0,none,Oc,[(.ret,BM)],A4,[],[(0,wT,fP)]⟩ AG4 Tryz.func125 wU
def AMj:=Chn.g APU ⟨219,0,0,2,0,none,AMi,[(.ret,Ey)],A4,[],[]⟩ w6 Tryz.func219 mh
def NY:=Chn.g AMj ⟨149,0,0,1,0,none,ACz,[(.ret,Ey)],A4,[],[(0,uW,uU),(1,uV,uT)]⟩ LV Tryz.func149 Yy
theorem zc:Tryz.f207.body.isSome=true:=by kernel_rfl
theorem zb : (Tryz.f207.name == "runtime.NumGoroutine") = false := by kernel_rfl
theorem za:loops (Bz Tryz.f207)=0:=by kernel_rfl
def TV[Lk]:Env:=NY.e.ext 207 false false (CE Tryz.prog NY.e {} Tryz.f207)
theorem ZQ:BE Tryz.prog TV:=Env.CA NY.h (Bn NY.h Tryz.func207 zc zb za) (by simp) (by simp)
def YK:=Chn.g ⟨TV,ZQ⟩ ⟨134,0,0,2,0,some (1,207),Mb,[(.ret,BM)],A4,[],[(0,Tc,FL)]⟩ LJ Tryz.func134 Li
def APQ:=Chn.g YK ⟨208,0,0,1,0,none,Oc,[(.ret,BH)],A4,[],[(0,ALo,ALn)]⟩ once Tryz.func208 wP
def PS:=Chn.g APQ ⟨318,0,0,2,0,none,MT,[(.ret,Ey)],A4,[(1,[[],[],[],[],[],[],[],[0]])],[]⟩ Wu Tryz.func318 ay
theorem yT:Tryz.f230.body.isSome=true:=by kernel_rfl
theorem yS : (Tryz.f230.name == "runtime.NumGoroutine") = false := by kernel_rfl
theorem yR:loops (Bz Tryz.f230)=0:=by kernel_rfl
def TU[Lk]:Env:=PS.e.ext 230 false false (CE Tryz.prog PS.e {} Tryz.f230)
theorem ZL:BE Tryz.prog TU:=Env.CA PS.h (Bn PS.h Tryz.func230 yT yS yR) (by simp) (by simp)
def R3:=Chn.g ⟨TU,ZL⟩ ⟨229,0,1,2,0,some (1,230),R2,[(.ret,R1)],A4,[],[(0,QL,QK)]⟩ Io Tryz.func229 JV
def PU:=Chn.g R3 ⟨174,0,0,2,0,none,J2,[(.ret,BM)],A4,[],[]⟩ RT Tryz.func174 bD
theorem ANg:Tryz.f210.body.isSome=true:=by kernel_rfl
theorem ANf : (Tryz.f210.name == "runtime.NumGoroutine") = false := by kernel_rfl
theorem ANe:loops (Bz Tryz.f210)=0:=by kernel_rfl
def dO[Lk]:Env:=PU.e.ext 210 false false (CE Tryz.prog PU.e {} Tryz.f210)
theorem jG:BE Tryz.prog dO:=Env.CA PU.h (Bn PU.h Tryz.func210 ANg ANf ANe) (by simp) (by simp)
def APk:=Chn.g ⟨dO,jG⟩ ⟨126,0,0,2,0,none,APj,[(.ret,BH)],A4,[(8,[[],[],[],[],[],[],[],[],[1000003],[],[],[],[],[],[],[],[],[0],[0],[0],[],[0],[0],[0],[2,26],[],[2,26],[2,26]]),(13,[[],[0],[0],[0],[2],[],[],[],[0],[0],[0],[6],[],[0],[0],[0],[4]]),(3,[[],[],[],[],[],[],[],[],[11],[],[],[],[8,10,12]])],[(0,AMp,AMo)]⟩ goes Tryz.func126 w8
def APT:=Chn.g APk ⟨249,0,0,1,0,none,BM,[(.ret,BH)],A4,[],[]⟩ AAs Tryz.func249 JP
def uX:=Chn.g APT ⟨189,0,0,2,0,none,J4,[(.ret,BM)],A4,[],[]⟩ D6 Tryz.func189 HB
def AJz:=Chn.g uX ⟨321,0,0,2,0,none,KP,[(.ret,BM)],A4,[],[]⟩ Cr Tryz.func321 jN
def AL9:=Chn.g AJz ⟨248,0,0,1,0,none,fU,[(.ret,BM)],A4,[],[]⟩ wo Tryz.func248 mO
def ADS:=Chn.g AL9 ⟨187,0,0,1,0,none,fU,[(.ret,BM)],A4,[],[]⟩ bitsLen Tryz.func187 Y'
def xj:=Chn.g ADS ⟨295,0,1,1,0,none,xi,[(.ret,xh)],A4,[(3,[[],[0],[0],[],[0],[0],[],[],[0],[1]]),(2,[[],[0],[0],[],[0],[0],[],[],[0],[1]]),(1,[[],[0],[0],[],[0],[0],[],[],[0],[1]])],[]⟩ xorNext Tryz.func295 VS
def AAr:=Chn.g xj ⟨294,0,0,1,0,none,BM,[(.ret,fU)],A4,[],[]⟩ UW Tryz.func294 X3
def APe:=Chn.g AAr ⟨370,0,1,4,0,some (3,321),Ry,[(.ret,Ik)],Bw,[(4,[[],[],[],[],[],[],[],[0],[0],[],[],[],[0],[0]]),(6,[[],[],[],[],[],[],[],[],[0],[0],[],[],[0],[0],[0],[1],[0],[1]])],[(0,AMK,ff),(1,AMJ,AMI)]⟩ AQ9 Tryz.func370 AML
def AKm:=Chn.g APe ⟨390,0,1,5,0,some (4,321),JF,[(.ret,Ik)],Bw,[(6,[[],[],[],[],[],[],[],[],[],[],[],[],[0],[0],[],[],[],[],[0],[0],[0],[1],[0],[1]]),(5,[[],[],[],[],[],[0],[0],[],[],[],[],[0],[0]]),(3,[[],[],[],[],[],[],[],[],[],[],[0],[0],[],[],[],[],[],[0],[0]])],[(0,AEr,AEq)]⟩ ANr Tryz.func390 AEs
def AMb:=Chn.g AKm ⟨371,0,1,4,0,some (3,321),Ry,[(.ret,Ik)],Bw,[(10,[[],[],[],[],[],[],[],[],[],[],[0],[0],[],[],[0],[0],[0],[1],[0],[1]])],[(0,AHl,AHj),(1,AHk,AHi)]⟩ AN6 Tryz.func371 AHm
def AJM:=Chn.g AMb ⟨372,0,1,4,0,some (3,321),Ry,[(.ret,Ik)],Bw,[(10,[[],[],[],[],[],[],[],[],[],[],[0],[0],[],[],[0],[0],[0],[1],[0],[1]])],[(0,ADL,ff)]⟩ AJN Tryz.func372 ADM
def AAg:=Chn.g AJM ⟨396,0,2,5,0,some (4,321),AAe,[(.ret,AAd)],BL,[(1,[[],[],[],[0],[0],[],[],[0],[0]])],[]⟩ wL Tryz.func396 sF
def AA0:=Chn.g AAg ⟨392,0,2,6,0,some (5,321),AAy,[(.ret,cD)],A4,[],[]⟩ wW Tryz.func392 sS
def ABC:=Chn.g AA0 ⟨391,0,2,4,0,some (3,321),ABA,[(.ret,cD)],A4,[],[]⟩ wa Tryz.func391 sX
def AF8:=Chn.g ABC ⟨373,0,1,4,0,some (3,321),Ry,[(.ret,AF6)],BL,[],[]⟩ AF9 Tryz.func373 z5
def AOh:=Chn.g AF8 ⟨374,0,1,4,0,some (3,321),Ry,[(.ret,Ik)],Bw,[(3,[[],[],[],[],[],[],[0],[0],[],[],[0],[0],[0],[1],[0],[1]])],[(0,AK2,ff)]⟩ AQp Tryz.func374 AK3
def rX:=Chn.g AOh ⟨375,0,1,4,0,some (3,321),Ry,[(.ret,rV)],A4,[(11,[[],[],[],[],[],[],[],[],[0],[0],[],[],[0],[0],[0],[1],[0],[1]]),(5,[[],[],[],[],[],[],[],[0],[0],[],[],[],[0],[0]]),(17,[[],[],[],[],[],[],[],[],[0],[0],[],[],[0],[0],[0],[1],[0],[1]]),(16,[[],[],[],[0],[0],[],[],[],[0],[0]]),(23,[[],[],[],[],[],[],[],[],[0],[0],[],[],[0],[0],[0],[1],[0],[1]]),(22,[[],[],[],[0],[0],[],[],[],[0],[0]])],[(0,Sw,lH),(1,Sw,lG),(2,lJ,lF),(3,lI,lE)]⟩ lL Tryz.func375 lK
def AAS:=Chn.g rX ⟨376,0,1,5,0,some (4,321),JF,[(.ret,AAQ)],A4,[(8,[[],[],[],[],[],[],[0],[0],[],[],[0],[0],[0],[1],[0],[1]]),(3,[[],[],[],[],[],[],[],[0],[0],[],[],[0],[0]]),(5,[[],[],[],[],[],[],[],[0],[0],[],[],[0],[0]]),(1,[[],[],[],[],[],[],[0],[0],[],[],[0],[0],[0],[1],[0],[1]])],[(0,OT,rp),(1,OT,rn),(2,OT,rm)]⟩ wH Tryz.func376 rq
def UQ:=Chn.g AAS ⟨377,0,1,5,0,some (4,321),JF,[(.ret,ALd)],BL,[(3,[[],[],[],[],[],[],[],[0],[0],[],[],[0],[0]]),(5,[[],[],[],[],[],[],[],[0],[0],[],[],[0],[0]]),(18,[[],[],[],[],[],[],[0],[0],[],[],[0],[0],[0],[1],[0],[1]]),(13,[[],[],[],[],[],[],[],[0],[0],[],[],[0],[0]]),(15,[[],[],[],[],[],[],[],[0],[0],[],[],[0],[0]]),(21,[[],[],[],[],[],[],[0],[0],[],[],[0],[0],[0],[1],[0],[1]]),(10,[[],[],[],[],[],[],[0],[0],[],[],[0],[0],[0],[1],[0],[1]]),(8,[[],[],[],[],[],[],[0],[0],[],[],[0],[0],[0],[1],[0],[1]]),(1,[[],[],[],[],[],[],[0],[0],[],[],[0],[0],[0],[1],[0],[1]])],[(0,MF,AGg),(1,MF,AGf),(2,MF,AGe),(3,MF,AGd),(4,MF,AGc)]⟩ ANz Tryz.func377 AGh
abbrev rJ(self:(List (List Int)×Int×Int×Int×Unit)->Option ((List (List Int)×Unit))):Hints:={ loop:=fun n=>match n with|0=>K9 1 148 v9 v8 (v7 self)|_=>fun _ _ _=>none,fp:=fun n=>match n with|17=>[[],[],[],[],[],[],[],[0],[0],[],[],[0],[0],[],[],[],[]]|_=>[] }
abbrev fF(self:(List (List Int)×Int×Int×Int×Unit)->Option ((List (List Int)×Unit))):Env:=UQ.e.ext 346 false true (BU 1 5 JF Ik Bw self)
theorem rI(self:(List (List Int)×Int×Int×Int×Unit)->Option ((List (List Int)×Unit))):∀ v,v7 self v=roundOf Tryz.prog (fF self) (rJ self) 1 1 148 (DF Tryz.f346 0) v9 v8 v:=by rintro⟨a,b,c,d,e,f,⟨⟩⟩;kernel_rfl
theorem ALO:CZ (DF Tryz.f346 0) 1=[]:=by kernel_rfl
theorem ALP(self:(List (List Int)×Int×Int×Int×Unit)->Option ((List (List Int)×Unit)))(a:BE Tryz.prog (fF self)):I7 Tryz.prog 1 (.loop (DF Tryz.f346 0)) ((rJ self).loop 0):=P9 a (rI self) (Dz ALO trivial)
theorem AGT(self:(List (List Int)×Int×Int×Int×Unit)->Option ((List (List Int)×Unit))):∀ v,AO6 self v=Da 1 Tryz.prog (fF self) (rJ self) Tryz.f346 JF Ik Bw v:=by rintro⟨a,b,c,d,⟨⟩⟩;kernel_rfl
theorem AO5:CZ (Bz Tryz.f346) 0=[(0,DF Tryz.f346 0)]:=by kernel_rfl
theorem rK:∀ n,BQ Tryz.prog 346 (BU 1 5 JF Ik Bw (Xr n)):=by
 intro n;induction n with
  |zero=>exact FK fun _=>rfl
  |succ n b=>have a:BE Tryz.prog (fF (Xr n)):=Env.CA UQ.h b ((by simp)) (fun _=>CM rfl rfl);let self:=Xr n;exact Gc a Tryz.func346 (by kernel_rfl) (by kernel_rfl) rfl (AGT self) (Dz AO5 ⟨(ALP self a),trivial⟩)
theorem AAJ:BQ Tryz.prog 346 (BU 1 5 JF Ik Bw ALR):=by have e:ALR=Xr 100:=funext ALQ;rw[e];exact rK _
def AJv[Lk]:Env:=UQ.e.Tl 346 4 321 (BU 1 5 JF Ik Bw ALR)
theorem ADi:BE Tryz.prog AJv:=Env.Qe UQ.h AAJ (CM rfl rfl)
def UG:=Chn.g ⟨AJv,ADi⟩ ⟨320,0,1,2,0,some (1,321),AKX,[(.ret,Ik)],Bw,[],[]⟩ va Tryz.func320 AEf
theorem AES:Tryz.f172.body.isSome=true:=by kernel_rfl
theorem AER : (Tryz.f172.name == "runtime.NumGoroutine") = false := by kernel_rfl
theorem AEQ:loops (Bz Tryz.f172)=0:=by kernel_rfl
def ZM[Lk]:Env:=UG.e.ext 172 false false (CE Tryz.prog UG.e {} Tryz.f172)
theorem aV:BE Tryz.prog ZM:=Env.CA UG.h (Bn UG.h Tryz.func172 AES AER AEQ) (by simp) (by simp)
def R5:=Chn.g ⟨ZM,aV⟩ ⟨134,0,1,2,0,some (1,172),KQ,[(.ret,R4)],A4,[],[(0,QN,QM)]⟩ Ip Tryz.func134 JW
def APr:=Chn.g R5 ⟨265,0,0,1,0,none,APq,[(.ret,Ey)],A4,[],[(0,AM8,xG)]⟩ ends Tryz.func265 xH
def AQ1:=Chn.g APr ⟨188,0,0,1,0,none,Oc,[(.ret,BM)],A4,[],[(0,APP,APO)]⟩ orI Tryz.func188 fM
def AG9:=Chn.g AQ1 ⟨167,0,0,1,0,none,BM,[(.ret,BH)],A4,[],[]⟩ X5 Tryz.func167 Ro
def APW:=Chn.g AG9 ⟨168,0,0,1,0,none,BM,[(.ret,BM)],A4,[],[]⟩ fR Tryz.func168 AL0
def sk:=Chn.g APW ⟨169,0,0,2,0,none,X9,[(.ret,BM)],A4,[(1,[[0],[0],[2],[2],[],[0],[0],[2],[2],[],[],[20]])],[]⟩ KN Tryz.func169 S7
def AG7:=Chn.g sk ⟨88,0,0,2,0,none,P1,[(.ret,Pz)],A4,[],[(0,ABL,cG)]⟩ Rm Tryz.func88 Rl
def nd:=Chn.g AG7 ⟨30,0,0,2,0,none,Jf,[(.ret,Ey)],A4,[(14,[[],[],[0],[0],[],[],[0],[0]]),(13,[[],[],[],[],[],[],[],[],[],[],[],[],[],[],[],[],[],[],[],[0],[0],[],[],[0],[0]])],[(0,hQ,g9),(1,hO,g8),(2,hJ,gz)]⟩ Gb Tryz.func30 Qw
def AKB:=Chn.g nd ⟨80,0,0,1,0,none,BM,[(.ret,BM)],A4,[],[(0,AEB,fP)]⟩ PW Tryz.func80 AEC
def ze:=Chn.g AKB ⟨28,0,0,1,0,none,F_,[(.ret,BH)],A4,[(10,[[],[],[],[0],[0],[],[],[],[],[],[4],[4],[],[],[0],[0],[],[],[],[],[],[4],[4],[],[],[0],[0],[],[],[],[],[],[4],[4]]),(8,[[4],[4],[],[],[4],[4],[4],[4],[],[],[],[4],[4],[0],[0],[],[],[],[4],[4],[],[],[],[4],[4],[0],[0]])],[(0,Xg,qb),(1,qc,qa)]⟩ Ex Tryz.func28 GA
def bC:=Chn.g ze ⟨32,0,0,2,0,none,P1,[(.ret,Pz)],A4,[(6,[[],[0],[0],[],[],[],[],[0],[0],[],[],[],[],[],[],[3,4]])],[(0,pJ,cG)]⟩ T_ Tryz.func32 W2
theorem AI5 : (Tryz.f131.name == "runtime.NumGoroutine") = false := by kernel_rfl
theorem gu:FA Tryz.prog Tryz.f131 36 3 (.int .i64) where
 body:=by kernel_rfl
 nt:=by kernel_rfl
 res:=by kernel_rfl
 d:=⟨by kernel_rfl,by kernel_rfl,by kernel_rfl,by kernel_rfl,by kernel_rfl,by kernel_rfl,by kernel_rfl,by kernel_rfl⟩
 g:=⟨by kernel_rfl,by kernel_rfl,by kernel_rfl,by kernel_rfl,by kernel_rfl,by kernel_rfl,by kernel_rfl,by kernel_rfl⟩
 o00:=by kernel_rfl
 o10:=by kernel_rfl
 o11:=by kernel_rfl
 o20:=by kernel_rfl
 o30:=by kernel_rfl
 o31:=by kernel_rfl
 o32:=by kernel_rfl
 o33:=by kernel_rfl
 sl:=by kernel_rfl
 z:=by kernel_rfl
 by1:=by kernel_rfl
def oc[Lk]:Env:=bC.e.ext 131 true true (Dj 3 (.int .i64))
theorem oa:BE Tryz.prog oc:=Env.CA bC.h (Ka gu Tryz.func131 AI5) (fun _=>B4 _ _) (fun _=>(B4 _ _).pL)
def AI0:=Chn.g ⟨oc,oa⟩ ⟨133,0,0,2,0,none,AIz,[(.ret,LA)],A4,[],[]⟩ Y0 Tryz.func133 cx
def AOO:=Chn.g AI0 ⟨211,0,0,1,0,none,LA,[(.ret,BM)],A4,[],[]⟩ yF Tryz.func211 vK
def ADB:=Chn.g AOO ⟨132,0,0,1,0,none,LA,[(.ret,BM)],A4,[],[]⟩ VF Tryz.func132 Y4
def PO:=Chn.g ADB ⟨130,0,0,1,0,none,BM,[(.ret,BH)],A4,[],[]⟩ db Tryz.func130 av
theorem pG:Tryz.f129.body.isSome=true:=by kernel_rfl
theorem pF : (Tryz.f129.name == "runtime.NumGoroutine") = false := by kernel_rfl
theorem pE:loops (Bz Tryz.f129)=0:=by kernel_rfl
def Q3[Lk]:Env:=PO.e.ext 129 false false (CE Tryz.prog PO.e {} Tryz.f129)
theorem T5:BE Tryz.prog Q3:=Env.CA PO.h (Bn PO.h Tryz.func129 pG pF pE) (by simp) (by simp)
def Z0:=Chn.g ⟨Q3,T5⟩ ⟨134,0,0,2,0,some (1,129),Ny,[(.ret,BM)],A4,[],[(0,YI,FL)]⟩ MX Tryz.func134 MW
def JD:=Chn.g Z0 ⟨59,0,0,2,0,none,jU,[(.ret,Ey)],A4,[],[(0,de,dc)]⟩ NG Tryz.func59 PQ
theorem AMn:Tryz.f191.body.isSome=true:=by kernel_rfl
theorem AMm : (Tryz.f191.name == "runtime.NumGoroutine") = false := by kernel_rfl
theorem AMl:loops (Bz Tryz.f191)=0:=by kernel_rfl
def dJ[Lk]:Env:=JD.e.ext 191 false false (CE Tryz.prog JD.e {} Tryz.f191)
theorem jA:BE Tryz.prog dJ:=Env.CA JD.h (Bn JD.h Tryz.func191 AMn AMm AMl) (by simp) (by simp)
def fx:=Chn.g ⟨dJ,jA⟩ ⟨225,0,3,2,0,some (1,191),QT,[(.ret,fw)],A4,[],[(0,Z',Z_)]⟩ Ow Tryz.func225 aA
def tE:=Chn.g fx ⟨108,0,0,2,0,none,tD,[(.ret,BM)],A4,[(1,[[0],[0],[2],[2],[],[0],[0],[2],[2],[],[],[20]])],[]⟩ Bh Tryz.func108 Mi
def APi:=Chn.g tE ⟨285,0,1,4,0,some (3,108),Rz,[(.ret,Im)],Bw,[(4,[[],[],[],[],[],[],[],[0],[0],[],[],[],[0],[0]]),(6,[[],[],[],[],[],[],[],[],[0],[0],[],[],[0],[0],[0],[1],[0],[1]])],[(0,AMU,fh),(1,AMT,AMS)]⟩ ARB Tryz.func285 AMV
def AKq:=Chn.g APi ⟨329,0,1,5,0,some (4,108),JH,[(.ret,Im)],Bw,[(6,[[],[],[],[],[],[],[],[],[],[],[],[],[0],[0],[],[],[],[],[0],[0],[0],[1],[0],[1]]),(5,[[],[],[],[],[],[0],[0],[],[],[],[],[0],[0]]),(3,[[],[],[],[],[],[],[],[],[],[],[0],[0],[],[],[],[],[],[0],[0]])],[(0,AEy,AEx)]⟩ ANt Tryz.func329 AEz
def AMf:=Chn.g AKq ⟨286,0,1,4,0,some (3,108),Rz,[(.ret,Im)],Bw,[(10,[[],[],[],[],[],[],[],[],[],[],[0],[0],[],[],[0],[0],[0],[1],[0],[1]])],[(0,AHw,AHu),(1,AHv,AHt)]⟩ AN8 Tryz.func286 AHx
def AJS:=Chn.g AMf ⟨287,0,1,4,0,some (3,108),Rz,[(.ret,Im)],Bw,[(10,[[],[],[],[],[],[],[],[],[],[],[0],[0],[],[],[0],[0],[0],[1],[0],[1]])],[(0,ADQ,fh)]⟩ AJT Tryz.func287 ADR
def AAo:=Chn.g AJS ⟨353,0,2,5,0,some (4,108),AAm,[(.ret,AAl)],BL,[(1,[[],[],[],[0],[0],[],[],[0],[0]])],[]⟩ wN Tryz.func353 sI
def AA6:=Chn.g AAo ⟨331,0,2,6,0,some (5,108),AA4,[(.ret,cF)],A4,[],[]⟩ wY Tryz.func331 sV
def ABI:=Chn.g AA6 ⟨330,0,2,4,0,some (3,108),ABG,[(.ret,cF)],A4,[],[]⟩ wg Tryz.func330 sb
def AGG:=Chn.g ABI ⟨288,0,1,4,0,some (3,108),Rz,[(.ret,AGE)],BL,[],[]⟩ AGH Tryz.func288 z8
def AOl:=Chn.g AGG ⟨289,0,1,4,0,some (3,108),Rz,[(.ret,Im)],Bw,[(3,[[],[],[],[],[],[],[0],[0],[],[],[0],[0],[0],[1],[0],[1]])],[(0,AK7,fh)]⟩ AQr Tryz.func289 AK8
def re:=Chn.g AOl ⟨290,0,1,4,0,some (3,108),Rz,[(.ret,ra)],A4,[(11,[[],[],[],[],[],[],[],[],[0],[0],[],[],[0],[0],[0],[1],[0],[1]]),(5,[[],[],[],[],[],[],[],[0],[0],[],[],[],[0],[0]]),(17,[[],[],[],[],[],[],[],[],[0],[0],[],[],[0],[0],[0],[1],[0],[1]]),(16,[[],[],[],[0],[0],[],[],[],[0],[0]]),(23,[[],[],[],[],[],[],[],[],[0],[0],[],[],[0],[0],[0],[1],[0],[1]]),(22,[[],[],[],[0],[0],[],[],[],[0],[0]])],[(0,S0,lY),(1,S0,lX),(2,ld,lW),(3,lZ,lV)]⟩ lh Tryz.func290 lf
def AAX:=Chn.g re ⟨291,0,1,5,0,some (4,108),JH,[(.ret,AAV)],A4,[(8,[[],[],[],[],[],[],[0],[0],[],[],[0],[0],[0],[1],[0],[1]]),(3,[[],[],[],[],[],[],[],[0],[0],[],[],[0],[0]]),(5,[[],[],[],[],[],[],[],[0],[0],[],[],[0],[0]]),(1,[[],[],[],[],[],[],[0],[0],[],[],[0],[0],[0],[1],[0],[1]])],[(0,OY,sC),(1,OY,r9),(2,OY,r8)]⟩ wJ Tryz.func291 sD
def US:=Chn.g AAX ⟨292,0,1,5,0,some (4,108),JH,[(.ret,ALi)],BL,[(3,[[],[],[],[],[],[],[],[0],[0],[],[],[0],[0]]),(5,[[],[],[],[],[],[],[],[0],[0],[],[],[0],[0]]),(18,[[],[],[],[],[],[],[0],[0],[],[],[0],[0],[0],[1],[0],[1]]),(13,[[],[],[],[],[],[],[],[0],[0],[],[],[0],[0]]),(15,[[],[],[],[],[],[],[],[0],[0],[],[],[0],[0]]),(21,[[],[],[],[],[],[],[0],[0],[],[],[0],[0],[0],[1],[0],[1]]),(10,[[],[],[],[],[],[],[0],[0],[],[],[0],[0],[0],[1],[0],[1]]),(8,[[],[],[],[],[],[],[0],[0],[],[],[0],[0],[0],[1],[0],[1]]),(1,[[],[],[],[],[],[],[0],[0],[],[],[0],[0],[0],[1],[0],[1]])],[(0,MJ,AGu),(1,MJ,AGt),(2,MJ,AGs),(3,MJ,AGr),(4,MJ,AGq)]⟩ AN1 Tryz.func292 AGv
abbrev rQ(self:(List (Int×Int×Unit)×Int×Int×Int×Unit)->Option ((List (Int×Int×Unit)×Unit))):Hints:={ loop:=fun n=>match n with|0=>K9 1 148 wF wE (wD self)|_=>fun _ _ _=>none,fp:=fun n=>match n with|17=>[[],[],[],[],[],[],[],[0],[0],[],[],[0],[0],[],[],[],[]]|_=>[] }
abbrev fJ(self:(List (Int×Int×Unit)×Int×Int×Int×Unit)->Option ((List (Int×Int×Unit)×Unit))):Env:=US.e.ext 237 false true (BU 1 5 JH Im Bw self)
theorem rP(self:(List (Int×Int×Unit)×Int×Int×Int×Unit)->Option ((List (Int×Int×Unit)×Unit))):∀ v,wD self v=roundOf Tryz.prog (fJ self) (rQ self) 1 1 148 (DF Tryz.f237 0) wF wE v:=by rintro⟨a,b,c,d,e,f,⟨⟩⟩;kernel_rfl
theorem ALX:CZ (DF Tryz.f237 0) 1=[]:=by kernel_rfl
theorem ALY(self:(List (Int×Int×Unit)×Int×Int×Int×Unit)->Option ((List (Int×Int×Unit)×Unit)))(a:BE Tryz.prog (fJ self)):I7 Tryz.prog 1 (.loop (DF Tryz.f237 0)) ((rQ self).loop 0):=P9 a (rP self) (Dz ALX trivial)
theorem AGV(self:(List (Int×Int×Unit)×Int×Int×Int×Unit)->Option ((List (Int×Int×Unit)×Unit))):∀ v,APA self v=Da 1 Tryz.prog (fJ self) (rQ self) Tryz.f237 JH Im Bw v:=by rintro⟨a,b,c,d,⟨⟩⟩;kernel_rfl
theorem AO9:CZ (Bz Tryz.f237) 0=[(0,DF Tryz.f237 0)]:=by kernel_rfl
theorem rR:∀ n,BQ Tryz.prog 237 (BU 1 5 JH Im Bw (Xt n)):=by
 intro n;induction n with
  |zero=>exact FK fun _=>rfl
  |succ n b=>have a:BE Tryz.prog (fJ (Xt n)):=Env.CA US.h b ((by simp)) (fun _=>CM rfl rfl);let self:=Xt n;exact Gc a Tryz.func237 (by kernel_rfl) (by kernel_rfl) rfl (AGV self) (Dz AO9 ⟨(ALY self a),trivial⟩)
theorem AAL:BQ Tryz.prog 237 (BU 1 5 JH Im Bw ALa):=by have e:ALa=Xt 100:=funext ALZ;rw[e];exact rR _
def AJx[Lk]:Env:=US.e.Tl 237 4 108 (BU 1 5 JH Im Bw ALa)
theorem ADk:BE Tryz.prog AJx:=Env.Qe US.h AAL (CM rfl rfl)
def AKd:=Chn.g ⟨AJx,ADk⟩ ⟨184,0,1,2,0,some (1,108),AKb,[(.ret,Im)],Bw,[],[]⟩ vb Tryz.func184 AEj
def AJ0:=Chn.g AKd ⟨161,0,0,1,0,none,BM,[(.ret,BH)],A4,[],[]⟩ ak Tryz.func161 ADq
def PE:=Chn.g AJ0 ⟨164,0,0,1,0,none,BM,[(.ret,BH)],A4,[],[]⟩ om Tryz.func164 xw
theorem xq:Tryz.f160.body.isSome=true:=by kernel_rfl
theorem xp : (Tryz.f160.name == "runtime.NumGoroutine") = false := by kernel_rfl
theorem xo:loops (Bz Tryz.f160)=0:=by kernel_rfl
theorem xn:Tryz.f163.body.isSome=true:=by kernel_rfl
theorem xm : (Tryz.f163.name == "runtime.NumGoroutine") = false := by kernel_rfl
theorem xl:loops (Bz Tryz.f163)=0:=by kernel_rfl
def TT[Lk]:Env:=PE.e.ext 160 false false (CE Tryz.prog PE.e {} Tryz.f160)
theorem ZK:BE Tryz.prog TT:=Env.CA PE.h (Bn PE.h Tryz.func160 xq xp xo) (by simp) (by simp)
def fv:=Chn.g ⟨TT,ZK⟩ ⟨225,0,0,2,0,some (1,160),QR,[(.ret,BM)],A4,[],[(0,Z7,FL)]⟩ Ov Tryz.func225 Z8
def Gp:=Chn.g fv ⟨162,0,0,2,0,some (1,160),QR,[(.ret,BH)],A4,[],[]⟩ Jd Tryz.func162 Yv
def TR[Lk]:Env:=Gp.e.ext 163 false false (CE Tryz.prog Gp.e {} Tryz.f163)
theorem ZJ:BE Tryz.prog TR:=Env.CA Gp.h (Bn Gp.h Tryz.func163 xn xm xl) (by simp) (by simp)
def fy:=Chn.g ⟨TR,ZJ⟩ ⟨226,0,0,2,0,some (1,163),QV,[(.ret,BM)],A4,[],[(0,aC,FL)]⟩ Ox Tryz.func226 aD
def aM:=Chn.g fy ⟨165,0,0,2,0,some (1,163),QV,[(.ret,BH)],A4,[],[]⟩ Mx Tryz.func165 Yw
def ADn:=Chn.g aM ⟨81,0,0,1,0,none,jI,[(.ret,BH)],A4,[],[]⟩ oh Tryz.func81 xk
def AJi:=Chn.g ADn ⟨197,0,0,1,0,none,AJh,[(.ret,Ey)],A4,[],[]⟩ uq Tryz.func197 ADV
def ANW:=Chn.g AJi ⟨114,0,0,1,0,none,jI,[(.ret,Ey)],A4,[],[(0,AJa,AJY),(1,AJZ,AJX)]⟩ AJc Tryz.func114 AJb
def ANF:=Chn.g ANW ⟨182,0,0,1,0,none,BM,[(.ret,BH)],A4,[],[]⟩ xP Tryz.func182 AIg
def AP0:=Chn.g ANF ⟨99,0,0,1,0,none,AIe,[(.ret,APz)],BL,[],[]⟩ AP1 Tryz.func99 ANE
def ANG:=Chn.g AP0 ⟨101,0,0,1,0,none,LA,[(.ret,AIe)],A4,[],[]⟩ AIk Tryz.func101 AIj
def ACb:=Chn.g ANG ⟨236,0,0,1,0,none,cn,[(.ret,ACa)],A4,[],[(0,uB,uA)]⟩ ga Tryz.func236 uC
def zX:=Chn.g ACb ⟨279,0,0,1,0,none,BM,[(.ret,BM)],A4,[],[]⟩ UK Tryz.func279 qY
def AFE:=Chn.g zX ⟨352,0,0,2,0,none,J4,[(.ret,BH)],A4,[],[]⟩ qS Tryz.func352 zS
end
end Go.Pev
end
