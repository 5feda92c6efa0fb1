/- A part of the proofs of this seat: T22a T21a T23a T23b T24a PlnC NKE NKF NKG NKH NU24a NU24b NU24c NU24d NU23a NU23b NU23c NU23d NU23e T24b NU24f NU24g NU24h NU24i NU24j NU24k NU24l NU24m NU24n PlnD NU21a NU21b NSIg NU23f NU23g PlnE NU23h NU23i NU23n W33a T05a T05b T05c CU26a CU26b CU26c CU26d CU26e CU26f T26a. -/
import Derived.Test.YtpoeepgiijmloaaGreatPbdd32a3c25
import Derived.KernelRfl
set_option linter.unusedVariables false
set_option linter.unusedSimpArgs false
set_option linter.unusedSectionVars false
set_option maxRecDepth 100000
section
namespace Go.Pev.Pl
def Low(l:List Edge)(k:Nat):Prop:=∀ j:Nat,j<k->¬ Con l (j:Int) (k:Int)
noncomputable def AIi(l:List Edge)(k:Nat):Bool:=@decide (Low l k) (Classical.propDecidable _)
theorem Jd(l:List Edge)(k:Nat):AIi l k=true↔Low l k:=by unfold AIi;simp
noncomputable def cc(N:Nat)(l:List Edge):Nat:=(List.range N).countP (AIi l)
noncomputable def FV(l:List Edge)(a b:Int):Bool:=@decide (Con l a b) (Classical.propDecidable _)
theorem CL(l:List Edge)(a b:Int):FV l a b=true↔Con l a b:=by unfold FV;simp
theorem J2(l:List Edge)(a b:Int):FV l a b=false↔¬ Con l a b:=by rw[<- CL];simp
theorem Con.sub{l d:List Edge}(h:∀ e∈l,e∈d){a b:Int}(c:Con l a b):Con d a b:=c.mono fun e f=>⟨e,h e f,.inl ⟨rfl,rfl⟩⟩
theorem Con.cut{l g:List Edge}(h:∀ e∈l,Con g e.1 e.2.1){a b:Int}(c:Con l a b):Con g a b:=by
 induction c with
  |refl a=>exact .refl a
  |edge e j=>grind
  |symm _ i=>exact i.symm
  |trans _ _ d f=>exact d.trans f
theorem AIh(l:List Edge):∀ v:Nat,∃ m:Nat,m<=v/\Con l (m:Int) (v:Int)/\Low l m:=by
 intro v;induction v using Nat.strongRecOn with
  |ind v c=>by_cases h:Low l v;exact⟨v,ASG _,.refl _,h⟩;have:∃ j:Nat,j<v/\Con l (j:Int) (v:Int):=ATI fun d=>h fun j a b=>d ⟨j,a,b⟩;obtain⟨j,a,b⟩:=this;obtain⟨m,g,e,f⟩:=c j a;exact⟨m,by omega,e.trans b,f⟩
theorem Low.le{l:List Edge}{m j:Nat}(h:Low l m)(a:Con l (m:Int) (j:Int)):m<=j:=by refine Nat.le_of_not_lt fun b=>h j b a.symm
theorem Low.uniq{l:List Edge}{a b:Nat}(c:Low l a)(d:Low l b)(h:Con l (a:Int) (b:Int)):a=b:=by have:=c.le h;have:=d.le h.symm;omega
theorem AKW{N:Nat}{l d:List Edge}(h:∀ j k:Nat,j<N->k<N->(Con l (j:Int) (k:Int)↔Con d (j:Int) (k:Int))):cc N l=cc N d:=by
 unfold cc;refine AUN fun k a => ?_;have a:k<N:=by grind
 rw[Jd,Jd];constructor;intro q j b c;exact q j b ((h j k (by omega) a).2 c);intro q j b c;exact q j b ((h j k (by omega) a).1 c)
theorem cD{N:Nat}{l c:List Edge}(h:∀ a b,Con l a b↔Con c a b):cc N l=cc N c:=AKW fun _ _ _ _=>h _ _
theorem zm{l f:List Edge}(h:∀ e,e∈l↔e∈f){a b:Int}:Con l a b↔Con f a b:=⟨fun c=>c.sub fun e d=>(h e).1 d,fun c=>c.sub fun e d=>(h e).2 d⟩
theorem AOi{N:Nat}{l a:List Edge}(h:l.Perm a):cc N l=cc N a:=cD fun _ _=>zm fun _=>h.mem_iff
theorem AQv(N:Nat):cc N []=N:=by
 unfold cc;have:(List.range N).countP (AIi [])=(List.range N).length:=by rw[List.countP_eq_length];intro k _;rw[Jd];intro j b a;have:=a.nil;omega
 grind
theorem bl{P:Nat->Bool}{M:Nat}(c:P M=true):∀ {xs:List Nat},xs.Nodup->M∈xs->xs.countP P=xs.countP (fun k=>P k && !decide (k=M))+1:=by
 intro xs;induction xs with
  |nil=>simp
  |cons x xs d=>
   intro a h;rw[ATD]at a;rw[AT6,AT6];by_cases b:x=M;subst b;have:xs.countP P=xs.countP (fun k=>P k && !decide (k=x)):=by refine AUN fun k e => ?_;grind
   grind;grind
def InE(N:Nat)(e:Edge):Prop:=(0<=e.1/\e.1<(N:Int))/\(0<=e.2.1/\e.2.1<(N:Int))
theorem rE{l:List Edge}{e:Edge}(h:Con l e.1 e.2.1){a b:Int}:Con (l++[e]) a b↔Con l a b:=
 ⟨fun c=>c.cut fun x d=>by rcases ASF.1 d with d|d;exact .edge x d;grind,fun c=>c.sub fun x d=>ASF.2 (.inl d)⟩
theorem zq{N:Nat}{l:List Edge}{e:Edge}(x:InE N e):cc N l=cc N (l++[e])+(if FV l e.1 e.2.1=true then 0 else 1):=by
 by_cases h:Con l e.1 e.2.1;rw[ASL ((CL _ _ _).2 h),ATe];exact cD fun a b=>(rE h).symm;rw[ASH (fun y=>h ((CL _ _ _).1 y))];obtain⟨⟨z,H⟩,A,I⟩:=x;obtain⟨u,r⟩:=ASD z;obtain⟨v,s⟩:=ASD A;have c:∀ {a b:Int},Con (l++[e]) a b↔Con l a b\/(Con l a (u:Int)/\Con l (v:Int) b)\/(Con l a (v:Int)/\Con l (u:Int) b):=by intro a b;rw[Con.snoc,r,s]
 rw[r,s]at h;obtain⟨p,J,f,t⟩:=AIh l u;obtain⟨q,K,g,w⟩:=AIh l v;have B:p≠q:=fun e=>h (f.symm.trans (e▸g));have i:∀ k:Nat,Low (l++[e]) k↔Low l k/\k≠max p q:=by
  intro k;constructor;intro d;refine⟨fun j n m=>d j n (c.2 (.inl m)),fun e => ?_⟩;refine d (min p q) (by omega) (c.2 ?_);by_cases C:p<q;rw[e,ATq (by omega),Nat.max_eq_right (by omega)];exact .inr (.inl ⟨f,g.symm⟩);rw[e,Nat.min_eq_right (by omega),Nat.max_eq_left (by omega)];exact .inr (.inr ⟨g,f.symm⟩);rintro⟨d,D⟩ j n m;rcases c.1 m with m|⟨o,c2⟩|⟨o,c2⟩
  exact d j n m;have E:=w.uniq d (g.trans c2);have F:=t.le (f.trans o.symm);omega;have E:=t.uniq d (f.trans c2);have F:=w.le (g.trans o.symm);omega
 have G:AIi l (max p q)=true:=by rw[Jd];grind
 unfold cc;rw[bl G ATY (by grind)];congr 1;refine AUN fun k _ => ?_;rw[Jd,i,ASB,Jd];simp
noncomputable def gfl:List Edge->List Edge->List Bool
 |_,[]=>[]
 |b,x::xs=>(!FV b x.1 x.2.1)::gfl (b++[x]) xs
noncomputable def Ph:List Edge->List Edge->List Edge
 |_,[]=>[]
 |b,x::xs=>if FV b x.1 x.2.1=true then Ph (b++[x]) xs else x::Ph (b++[x]) xs
theorem kU:∀ (xs b:List Edge),(gfl b xs).length=xs.length:=by
 intro xs;induction xs with
  |nil=>intro b;rfl
  |cons x xs a=>intro b;rw[gfl,ASK,ASK,a]
theorem AJX:∀ (xs b:List Edge) (x:Edge),gfl b (xs++[x])=gfl b xs++[!FV (b++xs) x.1 x.2.1]:=by
 intro xs;induction xs with
  |nil=>intro b x;simp[gfl]
  |cons y xs a=>intro b x;rw[ASl,gfl,gfl,a,ASl];simp
theorem AJR:∀ (xs b:List Edge),(Ph b xs).Sublist xs:=by
 intro xs;induction xs with
  |nil=>intro b;exact List.Sublist.refl _
  |cons x xs a=>intro b;rw[Ph];grind
theorem bu:∀ (xs b:List Edge) {a c:Int},Con (b++xs) a c↔Con (b++Ph b xs) a c:=by
 intro xs;induction xs with
  |nil=>intro b a c;rfl
  |cons x xs e=>
   intro b a c;have f:b++x::xs=(b++[x])++xs:=by simp
   rw[f,e,Ph];by_cases h:Con b x.1 x.2.1;rw[ASL ((CL _ _ _).2 h)];constructor;intro q;refine q.cut fun y d => ?_;rcases ASF.1 d with d|d;rcases ASF.1 d with d|d;exact .edge y (ASF.2 (.inl d));rw[ASj]at d;subst d;exact h.sub fun z g=>ASF.2 (.inl g);exact .edge y (ASF.2 (.inr d));intro q;refine q.sub fun y d => ?_;grind;rw[ASH (fun i=>h ((CL _ _ _).1 i))];simp
theorem WC{N:Nat}:∀ (xs b:List Edge),(∀ e∈xs,InE N e)->cc N b=cc N (b++xs)+(Ph b xs).length:=by
 intro xs;induction xs with
  |nil=>intro b _;simp[Ph]
  |cons x xs a=>
   intro b h;have c:b++x::xs=(b++[x])++xs:=by simp
   rw[zq (h x (by simp)),a (b++[x]) (fun e d=>h e (by simp[d])),c,Ph];grind
theorem APW{N:Nat}(xs b:List Edge)(h:∀ e∈xs,InE N e):cc N b<=cc N (b++xs)+xs.length:=by have:=WC xs b h;have:=(AJR xs b).length_le;omega
def Fo(N:Nat)(l:List Edge):Prop:=cc N l+l.length=N
theorem Fo.perm{N:Nat}{l a:List Edge}(h:Fo N l)(b:l.Perm a):Fo N a:=by unfold Fo at *;rw[<- AOi b,<- b.length_eq];exact h
theorem AKX{N:Nat}(l:List Edge)(h:∀ e∈l,InE N e):N<=cc N l+l.length:=by have:=APW l [] h;rw[AQv,AS1]at this;omega
theorem Fo.front{N:Nat}{a b:List Edge}(h:Fo N (a++b))(c:∀ e∈a,InE N e)(d:∀ e∈b,InE N e):Fo N a:=by unfold Fo at *;have f:=AKX a c;have g:=APW b a d;grind
theorem lT{N:Nat}{base l:List Edge}{r:Int->Int}(t:∀ a b,(0<=a/\a<(N:Int))->(0<=b/\b<(N:Int))->(r a=r b↔Con base a b))(m:∀ a,(0<=a/\a<(N:Int))->Con base a (r a))
  (q:∀ e∈base,InE N e) (s:∀ e∈l,InE N e) {a b:Int} (u:0<=a/\a<(N:Int)) (v:0<=b/\b<(N:Int)) :
  Con (base++l) a b↔Con (l.map fun e=>(r e.1,r e.2.1,())) (r a) (r b):=by
 constructor;intro h;have g:∀ {x y:Int},Con (base++l) x y->x=y\/Con (l.map fun e=>(r e.1,r e.2.1,())) (r x) (r y):=by
  intro x y i;induction i with
   |refl x=>omega
   |edge e d=>rcases ASF.1 d with d|d;have:=(t e.1 e.2.1 (q e d).1 (q e d).2).2 (.edge e d);rw[this];exact .inr (.refl _);exact .inr (.edge (l:=l.map fun e=>(r e.1,r e.2.1,())) (r e.1,r e.2.1,()) (ASS.2 ⟨e,d,rfl⟩))
   |symm _ o=>rcases o with h|h;omega;exact .inr h.symm
   |trans _ _ j f=>rcases j with rfl|w;exact f;rcases f with rfl|z;grind;exact .inr (w.trans z)
 rcases g h with rfl|h;exact .refl _;omega;intro h;have n:∀ {x y:Int},Con base x y->Con (base++l) x y:=fun c=>c.sub fun e d=>ASF.2 (.inl d);have g:∀ {x y:Int},Con (l.map fun e=>(r e.1,r e.2.1,())) x y->Con (base++l) x y:=by
  intro x y i;induction i with
   |refl x=>exact .refl x
   |edge e d=>obtain⟨p,k,rfl⟩:=ASS.1 d;exact((n (m _ (s p k).1)).symm.trans (.edge p (ASF.2 (.inr k)))).trans (n (m _ (s p k).2))
   |symm _ o=>exact o.symm
   |trans _ _ j f=>exact j.trans f
 exact((n (m a u)).trans (g h)).trans (n (m b v)).symm
abbrev Tie:=Int×Int×Int×Bool×Unit
abbrev zT:Tie:=(0,0,0,false,())
def ahead(p x:Tie):Prop:=p.1<x.1\/(p.1=x.1/\p.2.1<x.2.1)
instance (p x:Tie):Decidable (ahead p x):=inferInstanceAs (Decidable (_\/_))
def ed(t:Tie):Edge:=(t.1,t.2.1,())
def trk(ts:List Tie)(k:Int):List Edge:=(ts.filter fun t=>t.2.2.2.1&&decide (k<=t.2.2.1)).map ed
theorem EM{ts:List Tie}{k:Int}{e:Edge}:e∈trk ts k↔∃ t∈ts,t.2.2.2.1=true/\k<=t.2.2.1/\ed t=e:=by unfold trk;simp only[ASS,ASa,ASB,ASC];constructor;rintro⟨t,⟨a,b,c⟩,d⟩;exact⟨t,a,b,c,d⟩;rintro⟨t,a,b,c,d⟩;exact⟨t,⟨a,b,c⟩,d⟩
theorem JD{ts:List Tie}{k a:Int}(h:k<=a):∀ e∈trk ts a,e∈trk ts k:=by intro e b;obtain⟨t,c,d,g,f⟩:=EM.1 b;exact EM.2 ⟨t,c,d,by omega,f⟩
noncomputable def csz(N:Nat)(l:List Edge)(v:Int):Nat:=(List.range N).countP fun(w:Nat)=>FV l v (w:Int)
theorem Vr{N:Nat}{l a:List Edge}{v b:Int}(h:∀ w:Nat,w<N->Con l v (w:Int)->Con a b (w:Int)):csz N l v<=csz N a b:=by unfold csz;refine List.countP_mono_left fun w d c => ?_;rw[CL]at c |-;exact h w (by simpa using d) c
theorem AOX{N:Nat}{l:List Edge}{v:Nat}(a:v<N):1<=csz N l (v:Int):=by unfold csz;refine List.countP_pos_iff.2 ⟨v,by simpa using a,(CL _ _ _).2 (.refl _)⟩
theorem AOW{N:Nat}{l:List Edge}{a b:Nat}(c:a<N)(d:b<N)(e:a≠b)(h:Con l (a:Int) (b:Int)):2<=csz N l (a:Int):=by
 unfold csz;rw[bl (P:=fun(w:Nat)=>FV l (a:Int) (w:Int)) (M:=a) ((CL _ _ _).2 (.refl _)) ATY (by simpa using c)];have:0<(List.range N).countP (fun(w:Nat)=>FV l (a:Int) (w:Int) && !decide (w=a)):=by refine List.countP_pos_iff.2 ⟨b,by simpa using d,?_⟩;rw[ASB,CL];exact⟨h,by simp;omega⟩
 omega
theorem AKD{N:Nat}{l:List Edge}{e:Edge}(h:¬ Con l e.1 e.2.1):csz N (l++[e]) e.1=csz N l e.1+csz N l e.2.1:=by
 unfold csz;have c:∀ xs:List Nat,xs.countP (fun(w:Nat)=>FV (l++[e]) e.1 (w:Int))=xs.countP (fun(w:Nat)=>FV l e.1 (w:Int))+xs.countP (fun(w:Nat)=>FV l e.2.1 (w:Int)):=by
  intro xs;induction xs with
   |nil=>rfl
   |cons x xs f=>
    rw[AT6,AT6,AT6,f];have d:Con (l++[e]) e.1 (x:Int)↔Con l e.1 (x:Int)\/Con l e.2.1 (x:Int):=by rw[Con.snoc];constructor;rintro (h|⟨_,h⟩|⟨_,h⟩);exact .inl h;exact .inr h;exact .inl h;rintro (h|h);exact .inl h;exact .inr (.inl ⟨.refl _,h⟩)
    by_cases b:Con l e.1 (x:Int);have a:¬ Con l e.2.1 (x:Int):=fun a=>h (b.trans a.symm);rw[(CL _ _ _).2 (d.2 (.inl b)),(CL _ _ _).2 b,(J2 _ _ _).2 a];simp only[ASh,ASR,ASX];omega;by_cases a:Con l e.2.1 (x:Int);rw[(CL _ _ _).2 (d.2 (.inr a)),(J2 _ _ _).2 b,(CL _ _ _).2 a];simp only[ASh,ASR,ASX];omega;rw[(J2 _ _ _).2 (fun h=>(d.1 h).elim b a),(J2 _ _ _).2 b,(J2 _ _ _).2 a];simp only[ASR,ASX,ATe]
 exact c _
def FT(top:Int)(t:Tie):Tie:=(t.1,t.2.1,min top (t.2.2.1+1),t.2.2.2.1,())
def EC(t:Tie):Tie:=(t.1,t.2.1,t.2.2.1,true,())
def both(S:Int->Bool)(t:Tie):Bool:=S t.1&&S t.2.1
def IX(S:Int->Bool)(t:Tie):Prop:=S t.1≠S t.2.1
instance (S:Int->Bool)(t:Tie):Decidable (IX S t):=inferInstanceAs (Decidable (_≠_))
def rT(S:Int->Bool)(top i:Int)(t:Tie):Tie:=if t.2.2.2.1=true/\t.2.2.1=i/\both S t=true then FT top t else t
def rO(S:Int->Bool)(top i:Int)(t:Tie):Tie:=if t.2.2.2.1=false/\t.2.2.1=i/\both S t=true then FT top t else t
def rB(S:Int->Bool)(top i:Int)(t:Tie):Tie:=if t.2.2.1=i/\both S t=true then FT top t else t
def Bw(S:Int->Bool)(top i:Int):List Tie->List Tie×Nat×Option Edge
 |[]=>([],0,none)
 |t::ts=>if t.2.2.2.1=true\/t.2.2.1≠i then(t::(Bw S top i ts).1,(Bw S top i ts).2)
  else if both S t=true then(FT top t::(Bw S top i ts).1,(Bw S top i ts).2.1+1,(Bw S top i ts).2.2)
  else if IX S t then(EC t::ts,0,some (ed t))
  else(t::(Bw S top i ts).1,(Bw S top i ts).2)
theorem xb{S:Int->Bool}{t:Tie}(h:both S t=true):¬ IX S t:=by unfold both at h;unfold IX;rw[ASB]at h;rw[h.1,h.2];simp
theorem ua(S:Int->Bool)(top i:Int):∀ ts:List Tie,(Bw S top i ts).2.2=none->(Bw S top i ts).1=ts.map (rO S top i)/\∀ t∈ts,t.2.2.2.1=false->t.2.2.1=i->¬ IX S t:=by
 intro ts;induction ts with
  |nil=>intro _;exact⟨rfl,fun t h=>by cases h⟩
  |cons t ts k=>
   intro h;rw[Bw]at h |-;by_cases c:t.2.2.2.1=true\/t.2.2.1≠i;rw[ASL c]at h |-;obtain⟨e,f⟩:=k h;have g:rO S top i t=t:=by unfold rO;rw[ASH];rintro⟨a,b,_⟩;rcases c with c|c;rw[c]at a;cases a;exact c b
   refine⟨by rw[ASQ,g,e],fun x d a b => ?_⟩;rcases ASW.1 d with rfl|d;rcases c with c|c;rw[c]at a;cases a;exact absurd b c;exact f x d a b;rw[ASH c]at h |-;have n:t.2.2.2.1=false:=by cases l:t.2.2.2.1;rfl;exact absurd (.inl l) c
   have o:t.2.2.1=i:=ATI fun p=>c (.inr p);by_cases j:both S t=true;rw[ASL j]at h |-;obtain⟨e,f⟩:=k h;have g:rO S top i t=FT top t:=by unfold rO;rw[ASL ⟨n,o,j⟩]
   refine⟨by rw[ASQ,g,e],fun x d a b => ?_⟩;rcases ASW.1 d with rfl|d;exact xb j;exact f x d a b;rw[ASH j]at h |-;by_cases m:IX S t;rw[ASL m]at h;cases h;rw[ASH m]at h |-;obtain⟨e,f⟩:=k h;have g:rO S top i t=t:=by unfold rO;rw[ASH (fun l=>j l.2.2)]
   refine⟨by rw[ASQ,g,e],fun x d a b => ?_⟩;rcases ASW.1 d with rfl|d;exact m;exact f x d a b
theorem uZ(S:Int->Bool)(top i:Int)(e:Edge):∀ ts:List Tie,(Bw S top i ts).2.2=some e->∃ A x B,ts=A++x::B/\(Bw S top i ts).1=A.map (rO S top i)++EC x::B/\x.2.2.2.1=false/\x.2.2.1=i/\IX S x/\e=ed x:=by
 intro ts;induction ts with
  |nil=>intro h;cases h
  |cons t ts k=>
   intro h;rw[Bw]at h |-;by_cases c:t.2.2.2.1=true\/t.2.2.1≠i;rw[ASL c]at h |-;obtain⟨A,x,B,d,f,r⟩:=k h;have g:rO S top i t=t:=by unfold rO;rw[ASH];rintro⟨a,b,_⟩;rcases c with c|c;rw[c]at a;cases a;exact c b
   exact⟨t::A,x,B,by rw[d];rfl,by rw[f,ASQ,g];rfl,r⟩;rw[ASH c]at h |-;have n:t.2.2.2.1=false:=by cases l:t.2.2.2.1;rfl;exact absurd (.inl l) c
   have o:t.2.2.1=i:=ATI fun p=>c (.inr p);by_cases j:both S t=true;rw[ASL j]at h |-;obtain⟨A,x,B,d,f,r⟩:=k h;have g:rO S top i t=FT top t:=by unfold rO;rw[ASL ⟨n,o,j⟩]
   exact⟨t::A,x,B,by rw[d];rfl,by rw[f,ASQ,g];rfl,r⟩;rw[ASH j]at h |-;by_cases m:IX S t;rw[ASL m]at h |-;injection h with h;exact⟨[],t,ts,rfl,rfl,n,o,m,h.symm⟩;rw[ASH m]at h |-;obtain⟨A,x,B,d,f,r⟩:=k h;have g:rO S top i t=t:=by unfold rO;rw[ASH (fun l=>j l.2.2)]
   exact⟨t::A,x,B,by rw[d];rfl,by rw[f,ASQ,g];rfl,r⟩
theorem Zf(S:Int->Bool)(top i:Int)(t:Tie):ed (rT S top i t)=ed t:=by unfold rT;split<;>rfl
theorem AHF(S:Int->Bool)(top i:Int)(t:Tie):ed (rO S top i t)=ed t:=by unfold rO;split<;>rfl
theorem MM(S:Int->Bool)(top i:Int)(t:Tie):(rT S top i t).2.2.2.1=t.2.2.2.1:=by unfold rT;split<;>rfl
theorem jO(S:Int->Bool)(top i:Int)(t:Tie):(rO S top i t).2.2.2.1=t.2.2.2.1:=by unfold rO;split<;>rfl
theorem jN{S:Int->Bool}{top i:Int}{t:Tie}(h:t.2.2.1<=top):t.2.2.1<=(rT S top i t).2.2.1/\(rT S top i t).2.2.1<=top:=by unfold rT;split;show t.2.2.1<=min top (t.2.2.1+1)/\min top (t.2.2.1+1)<=top;omega;omega
theorem tv{S:Int->Bool}{top i:Int}{t:Tie}(h:t.2.2.1<=top):t.2.2.1<=(rO S top i t).2.2.1/\(rO S top i t).2.2.1<=top:=by unfold rO;split;show t.2.2.1<=min top (t.2.2.1+1)/\min top (t.2.2.1+1)<=top;omega;omega
theorem tu{S:Int->Bool}{top i:Int}{t:Tie}(h:t.2.2.2.1=true):rO S top i t=t:=by unfold rO;rw[ASH];rintro⟨a,_⟩;rw[h]at a;cases a
theorem Hz{S:Int->Bool}{top i:Int}{t:Tie}(h:t.2.2.2.1=false):rT S top i t=t:=by unfold rT;rw[ASH];rintro⟨a,_⟩;rw[h]at a;cases a
theorem iN{f:Tie->Tie}(k:Int)(b:∀ t,ed (f t)=ed t)(c:∀ t,(f t).2.2.2.1=t.2.2.2.1)(ts:List Tie)(a:∀ t∈ts,t.2.2.2.1=true->(k<=(f t).2.2.1↔k<=t.2.2.1)):trk (ts.map f) k=trk ts k:=by
 induction ts with
  |nil=>rfl
  |cons t ts d=>have:=d fun x e=>a x (by simp[e]);unfold trk at *;rw[ASQ,ATJ,ATJ,c];have g:=a t (by simp);cases h:t.2.2.2.1;simp only[Bool.false_and,ASR,ASX];exact this;have hd:decide (k<=(f t).2.2.1)=decide (k<=t.2.2.1):=ATv.2 (g h);rw[hd];simp only[Bool.true_and];split;rw[ASQ,ASQ,b,this];exact this
section
variable {N:Nat} {top:Int} {O:List Tie} {S:Int->Bool} {i:Int} {c:Int}
theorem Qm{k:Int}{e:Edge}:e∈trk (O.map (rT S top i)) k↔∃ t∈O,t.2.2.2.1=true/\k<=(rT S top i t).2.2.1/\ed t=e:=by rw[EM];constructor;rintro⟨t,d,a,f,b⟩;obtain⟨x,g,rfl⟩:=ASS.1 d;rw[MM]at a;rw[Zf]at b;exact⟨x,g,a,f,b⟩;rintro⟨t,d,a,f,b⟩;exact⟨_,ASS.2 ⟨t,d,rfl⟩,by rw[MM];exact a,f,by rw[Zf];exact b⟩
theorem Dx{k:Int}(b:k<=i)(a:i<=top):trk (O.map (rT S top i)) k=trk O k:=by refine iN k (Zf S top i) (MM S top i) O fun t _ _ => ?_;unfold rT;split;rename_i h;show k<=min top (t.2.2.1+1)↔_;omega;rfl
theorem m8{k:Int}(a:i+2<=k):trk (O.map (rT S top i)) k=trk O k:=by refine iN k (Zf S top i) (MM S top i) O fun t _ _ => ?_;unfold rT;split;rename_i h;show k<=min top (t.2.2.1+1)↔_;omega;rfl
theorem L8(b:∀ t∈O,t.2.2.1<=top)(k:Int):∀ e∈trk O k,e∈trk (O.map (rT S top i)) k:=by intro e d;obtain⟨t,a,f,h,g⟩:=EM.1 d;have:=jN (S:=S) (i:=i) (b t a);exact Qm.2 ⟨t,a,f,by omega,g⟩
variable (hS:∀ a b,Con (trk O i) a b->S a=S b)
include hS
theorem AKK(o:∀ t∈O,t.2.2.1<=top)(p:i+1<=top){a b:Int}(h:Con (trk O i) a b)(d:S a=true):Con (trk (O.map (rT S top i)) (i+1)) a b:=by
 have g:∀ {a b:Int},Con (trk O i) a b->S a=true->Con (trk (O.map (rT S top i)) (i+1)) a b:=by
  intro a b h;induction h with
   |refl a=>intro _;exact .refl a
   |edge e m=>
    intro d;obtain⟨t,f,n,u,rfl⟩:=EM.1 m;have q:S t.2.1=true:=by have:=hS _ _ (.edge _ m);exact this.symm.trans d
    have r:ed t∈trk (O.map (rT S top i)) (i+1):=by refine Qm.2 ⟨t,f,n,?_,rfl⟩;by_cases j:t.2.2.1=i;unfold rT;rw[ASL ⟨n,j,by unfold both;rw[show S t.1=true from d,q];rfl⟩];show i+1<=min top (t.2.2.1+1);omega;have:=jN (S:=S) (i:=i) (o t f);omega
    exact .edge _ r
   |symm h s=>intro d;exact(s (by rw[hS _ _ h];exact d)).symm
   |trans f _ k l=>intro d;exact(k d).trans (l (by rw[<- hS _ _ f];exact d))
 exact g h d
theorem rF(f:i<=top){a b:Int}(h:Con (trk (O.map (rT S top i)) (i+1)) a b)(d:S a=false):Con (trk O (i+1)) a b:=by
 have low:∀ {a b:Int},Con (trk (O.map (rT S top i)) (i+1)) a b->S a=S b:=fun h=>hS _ _ (by have:=h.sub (JD (ts:=O.map (rT S top i)) (show i<=i+1 by omega));rw[Dx (AVB i) f]at this;exact this)
 have g:∀ {a b:Int},Con (trk (O.map (rT S top i)) (i+1)) a b->S a=false->Con (trk O (i+1)) a b:=by
  intro a b h;induction h with
   |refl a=>intro _;exact .refl a
   |edge e o=>intro d;obtain⟨t,j,p,k,rfl⟩:=Qm.1 o;refine .edge _ (EM.2 ⟨t,j,p,?_,rfl⟩);unfold rT at k;rw[ASH]at k;exact k;rintro⟨_,_,l⟩;unfold both at l;rw[show S t.1=false from d]at l;cases l
   |symm h q=>intro d;exact(q (by rw[low h];exact d)).symm
   |trans j _ m n=>intro d;exact(m d).trans (n (by rw[<- low j];exact d))
 exact g h d
end
theorem Fo.yw{N:Nat}{l:List Edge}{e:Edge}(h:Fo N (l++[e]))(a:∀ x∈l,InE N x)(b:InE N e):¬ Con l e.1 e.2.1:=by intro c;have d:=zq (N:=N) (l:=l) b;rw[ASL ((CL _ _ _).2 c)]at d;have f:=AKX l a;unfold Fo at h;rw[ASN,AUJ]at h;omega
theorem Rn{N:Nat}{O:List Tie}(h:∀ x∈O,InE N (ed x))(k:Int):∀ e∈trk O k,InE N e:=by intro e a;obtain⟨t,b,_,_,rfl⟩:=EM.1 a;exact h t b
theorem Cl(A B:List Tie)(k:Int):trk (A++B) k=trk A k++trk B k:=by unfold trk;rw[ATP,ASz]
theorem Tk(S:Int->Bool)(top i:Int)(A:List Tie)(k:Int):trk (A.map (rO S top i)) k=trk A k:=
 iN k (AHF S top i) (jO S top i) A fun t _ h=>by rw[tu h]
structure RW(HB:Prop)(N:Nat)(top:Int)(O:List Tie):Prop where
 lvl:∀ x∈O,0<=x.2.2.1/\x.2.2.1<=top
 ins:∀ x∈O,InE N (ed x)
 fo:Fo N (trk O 0)
 lie:∀ x∈O,x.2.2.2.1=false->Con (trk O x.2.2.1) x.1 x.2.1
 halv:HB->∀ k:Nat,(k:Int)<=top->∀ v:Nat,v<N->csz N (trk O k) v<=max 1 (N/2 ^ k)
abbrev Snd(N:Nat)(top:Int)(O:List Tie):Prop:=RW True N top O
structure Km(HB:Prop)(N:Nat)(top:Int)(t:Edge)(j:Int)(O:List Tie):Prop where
 lvl:∀ x∈O,0<=x.2.2.1/\x.2.2.1<=top
 ins:∀ x∈O,InE N (ed x)
 it:InE N t
 fo:Fo N (trk O 0++[t])
 lie1:∀ x∈O,x.2.2.2.1=false->j<=x.2.2.1->Con (trk O x.2.2.1) x.1 x.2.1
 lie2:∀ x∈O,x.2.2.2.1=false->x.2.2.1<j->Con (trk O x.2.2.1++[t]) x.1 x.2.1
 halv:HB->∀ k:Nat,(k:Int)<=top->∀ v:Nat,v<N->csz N (trk O k) v<=max 1 (N/2 ^ k)
 halt:HB->∀ k:Nat,(k:Int)<j->(k:Int)<=top->∀ v:Nat,v<N->csz N (trk O k++[t]) v<=max 1 (N/2 ^ k)
structure Ot(N:Nat)(t:Edge)(i:Nat)(O:List Tie)(S:Int->Bool)(c:Nat):Prop where
 cN:c<N
 at_:t.1=(c:Int)\/t.2.1=(c:Int)
 side:∀ w:Nat,w<N->(S (w:Int)=true↔Con (trk O i) (c:Int) (w:Int))
 less:2*csz N (trk O i) (c:Int)<=csz N (trk O i) t.1+csz N (trk O i) t.2.1
section
variable {HB:Prop} {N:Nat} {top:Int} {t:Edge} {O:List Tie} {S:Int->Bool} {i c:Nat}
theorem Ot.closed(d:Ot N t i O S c)(hi:∀ x∈O,InE N (ed x)):∀ a b,Con (trk O i) a b->S a=S b:=by
 intro a b h;rcases Con.within (I:=fun a=>0<=a/\a<(N:Int)) (fun e f=>Rn hi i e f) h with rfl|⟨⟨g,m⟩,j,n⟩
 rfl;obtain⟨u,rfl⟩:=ASD g;obtain⟨v,rfl⟩:=ASD j;have k:=d.side u (by omega);have l:=d.side v (by omega);rw[ATH,k,l];exact⟨fun q=>q.trans h,fun q=>q.trans h.symm⟩
theorem Ot.zL(a:Ot N t i O S c):S (c:Int)=true:=(a.side c a.cN).2 (.refl _)
theorem Ot.con(d:Ot N t i O S c){a b:Int}(e:0<=a/\a<(N:Int))(f:0<=b/\b<(N:Int))(g:S a=true)(h:S b=true):Con (trk O i) a b:=by obtain⟨u,rfl⟩:=ASD e.1;obtain⟨v,rfl⟩:=ASD f.1;exact((d.side u (by omega)).1 g).symm.trans ((d.side v (by omega)).1 h)
variable (hG:Km HB N top t ((i:Int)+1) O) (hit:(i:Int)<=top) (hL:Ot N t i O S c)
include hG
theorem Km.apart(k:Nat):¬ Con (trk O (k:Int)) t.1 t.2.1:=fun h=>hG.fo.yw (Rn hG.ins 0) hG.it (h.sub (JD (by omega)))
include hit hL
theorem Km.half(q:HB)(a:(i:Int)+1<=top):csz N (trk O i) (c:Int)<=N/2 ^ (i+1):=by
 obtain⟨⟨b,h⟩,j,k⟩:=hG.it;obtain⟨u,d⟩:=ASD b;have f:=AKD (N:=N) (hG.apart i);have g:=hG.halt q i (by omega) hit u (by omega);rw[<- d,f]at g;have m:=AOX (N:=N) (l:=trk O i) hL.cN;have n:=hL.less;have e:N/2 ^ (i+1)=N/2 ^ i/2:=by rw[Nat.pow_succ,Nat.div_div_eq_div_mul]
 rw[e];omega
theorem Km.APU(q:HB)(k:Nat)(f:(k:Int)<=top)(v:Nat)(e:v<N):csz N (trk (O.map (rT S top i)) k) v<=max 1 (N/2 ^ k):=by
 have l:=hL.closed hG.ins;have p:∀ x∈O,x.2.2.1<=top:=fun x m=>(hG.lvl x m).2;rcases AUi k (i+1)with h|rfl|h;rw[Dx (by omega) hit];exact hG.halv q k f v e;cases d:S (v:Int);refine ASs (Vr fun w n g => ?_) (hG.halv q (i+1) f v e);have:=rF l hit (a:=(v:Int)) (b:=(w:Int)) (by simpa using g) d;simpa using this;have o:csz N (trk (O.map (rT S top i)) ((i+1:Nat):Int)) v<=csz N (trk O i) (c:Int):=Vr fun w n g=>by have j:=g.sub (JD (ts:=O.map (rT S top i)) (show(i:Int)<=((i+1:Nat):Int) by omega));rw[Dx (AVB _) hit]at j;exact((hL.side v e).1 d).trans j
 have:=hG.half hit hL q (by omega);omega;rw[m8 (by omega)];exact hG.halv q k f v e
omit hL
theorem Ze{x:Tie}(a:x∈O.map (rT S top i))(h:x.2.2.2.1=false):x∈O:=by obtain⟨y,b,rfl⟩:=ASS.1 a;rw[MM]at h;rw[Hz h];exact b
include hL
theorem Km.aL{x:Tie}(d:x∈O)(e:x.2.2.1=(i:Int))(a:both S x=true):Con (trk (O.map (rT S top i)) (min top (x.2.2.1+1))) x.1 x.2.1:=by have g:=hL.closed hG.ins;unfold both at a;rw[ASB]at a;have f:=hL.con (hG.ins x d).1 (hG.ins x d).2 a.1 a.2;by_cases b:(i:Int)+1<=top;rw[e,Int.min_eq_right b];exact AKK g (fun x d=>(hG.lvl x d).2) b f a.1;rw[e,AUK (by omega),show top=(i:Int) by omega];have:=Dx (O:=O) (S:=S) (top:=top) (i:=(i:Int)) (k:=(i:Int)) (AVB _) hit;rw[show top=(i:Int) by omega]at this;rw[this];exact f
theorem Km.next(w:∀ x∈O.map (rT S top i),x.2.2.2.1=false->x.2.2.1=(i:Int)->¬ IX S x):Km HB N top t (i:Int) ((O.map (rT S top i)).map (rO S top i)):=by
 have u:=hL.closed hG.ins;have A:∀ x∈O,x.2.2.1<=top:=fun x d=>(hG.lvl x d).2;have e:∀ x∈(O.map (rT S top i)).map (rO S top i),∃ y∈O,x=rO S top i (rT S top i y):=fun x d=>by obtain⟨z,J,rfl⟩:=ASS.1 d;obtain⟨y,b,rfl⟩:=ASS.1 J;exact⟨y,b,rfl⟩
 have B:∀ y∈O,y.2.2.1<=(rO S top i (rT S top i y)).2.2.1/\(rO S top i (rT S top i y)).2.2.1<=top:=fun y b=>by have I:=jN (S:=S) (i:=(i:Int)) (A y b);have n:=tv (S:=S) (i:=(i:Int)) I.2;omega
 have j:∀ x∈(O.map (rT S top i)).map (rO S top i),x.2.2.2.1=false->∃ y∈O,y.2.2.2.1=false/\x=rO S top i y:=fun x d h=>by obtain⟨y,b,rfl⟩:=e x d;rw[jO,MM]at h;exact⟨y,b,h,by rw[Hz h]⟩
 refine⟨fun x d => ?_,fun x d => ?_,hG.it,?_,fun x d h C => ?_,fun x d h C => ?_,fun q k K v D => ?_,fun q k L E v D => ?_⟩;obtain⟨y,b,rfl⟩:=e x d;have:=B y b;have:=(hG.lvl y b).1;omega;obtain⟨y,b,rfl⟩:=e x d;rw[AHF,Zf];exact hG.ins y b;rw[Tk,Dx (by omega) hit];exact hG.fo;obtain⟨y,b,l,rfl⟩:=j x d h;rw[Tk];by_cases o:y.2.2.1=(i:Int)/\both S y=true;have p:rO S top i y=FT top y:=by unfold rO;rw[ASL ⟨l,o.1,o.2⟩]
 rw[p];exact hG.aL hit hL b o.1 o.2;have p:rO S top i y=y:=by unfold rO;rw[ASH (fun q=>o ⟨q.2.1,q.2.2⟩)]
 rw[p]at C |-;by_cases hi:y.2.2.1=(i:Int)
 have f:¬ both S y=true:=fun q=>o ⟨hi,q⟩;have g:=w y (ASS.2 ⟨y,b,Hz l⟩) l hi;have n:=hG.lie2 y b l (by omega);rw[hi,Dx (AVB _) hit];rw[hi]at n;unfold IX at g;have g:=AUO.1 g;have a:S y.1=false/\S y.2.1=false:=by unfold both at f;rw[<- g]at f |-;cases F:S y.1;exact⟨rfl,rfl⟩;rw[F]at f;exact absurd rfl f
 rw[Con.snoc]at n;rcases n with n|⟨G,H⟩|⟨G,H⟩
 exact n;have r:=u _ _ G;have s:=u _ _ H;rcases hL.at_ with m|m;rw[m,hL.zL,a.1]at r;cases r;rw[m,hL.zL,a.2]at s;cases s;have r:=u _ _ G;have s:=u _ _ H;rcases hL.at_ with m|m;rw[m,hL.zL,a.2]at s;cases s;rw[m,hL.zL,a.1]at r;cases r;exact(hG.lie1 y b l (by omega)).sub (L8 A _);obtain⟨y,b,l,rfl⟩:=j x d h;have I:=tv (S:=S) (i:=(i:Int)) (A y b);have p:rO S top i y=y:=by unfold rO;rw[ASH (fun q=>by have:=q.2.1;omega)]
 rw[p]at C |-;rw[Tk,Dx (by omega) hit];exact hG.lie2 y b l (by omega);rw[Tk];exact hG.APU hit hL q k K v D;rw[Tk,Dx (by omega) hit];exact hG.halt q k (by omega) E v D
theorem Km.found{A B:List Tie}{x:Tie}(o:O.map (rT S top i)=A++x::B)(W:x.2.2.2.1=false)(hi:x.2.2.1=(i:Int))(X:IX S x):
  RW HB N top (A.map (rO S top i)++EC x::B)/\Con (trk (A.map (rO S top i)++EC x::B) 0) t.1 t.2.1:=by
 have hS:=hL.closed hG.ins;have T:∀ x∈O,x.2.2.1<=top:=fun x X=>(hG.lvl x X).2;have Y:x∈O.map (rT S top i):=by rw[o];simp
 have r:x∈O:=Ze hG hit Y W;have s:∀ y∈A,y∈O.map (rT S top i):=fun y f=>by rw[o];simp[f]
 have u:∀ y∈B,y∈O.map (rT S top i):=fun y f=>by rw[o];simp[f]
 have E:∀ y∈O.map (rT S top i),0<=y.2.2.1/\y.2.2.1<=top:=fun y f=>by obtain⟨z,n,rfl⟩:=ASS.1 f;have:=jN (S:=S) (i:=(i:Int)) (T z n);have:=(hG.lvl z n).1;omega
 have F:∀ y∈O.map (rT S top i),InE N (ed y):=fun y f=>by obtain⟨z,n,rfl⟩:=ASS.1 f;rw[Zf];exact hG.ins z n
 have Z:trk [x]=fun _=>[]:=by funext k;unfold trk;rw[ATJ,W];rfl
 have hat:∀ k,trk [EC x] k=if k<=(i:Int)then [ed x]else []:=by intro k;unfold trk;have G:(EC x).2.2.1=(i:Int):=hi;have H:(EC x).2.2.2.1=true:=rfl;rw[ATJ,G,H];by_cases j:k<=(i:Int);rw[ASL j,AR9 j];rfl;rw[ASH j,AR8 j];rfl
 have U:∀ k,trk (O.map (rT S top i)) k=trk A k++trk B k:=by intro k;rw[o,show A++x::B=A++([x]++B)from rfl,Cl,Cl,Z,AS1]
 have m:∀ k,trk (A.map (rO S top i)++EC x::B) k=trk A k++((if k<=(i:Int)then [ed x]else [])++trk B k):=by intro k;rw[show A.map (rO S top i)++EC x::B=A.map (rO S top i)++([EC x]++B)from rfl,Cl,Cl,Tk,hat]
 have g:∀ k,∀ e∈trk (O.map (rT S top i)) k,e∈trk (A.map (rO S top i)++EC x::B) k:=by intro k e d;rw[U]at d;rw[m];rcases ASF.1 d with d|d;exact ASF.2 (.inl d);exact ASF.2 (.inr (ASF.2 (.inr d)))
 have I:∀ k,k<=(i:Int)->ed x∈trk (A.map (rO S top i)++EC x::B) k:=by intro k j;rw[m,ASL j];simp
 have C:=hG.lie2 x r W (by omega);rw[hi]at C;have ht:Con (trk O i++[ed x]) t.1 t.2.1:=by
  have V:∀ {a b:Int},Con (trk O i) a b->Con (trk O i++[ed x]) a b:=fun c=>c.sub fun e d=>ASF.2 (.inl d);have J:Con (trk O i++[ed x]) x.1 x.2.1:=.edge (l:=trk O i++[ed x]) (ed x) (by simp);rw[Con.snoc]at C;rcases C with C|⟨G,H⟩|⟨G,H⟩
  exact absurd (hS _ _ C) X;exact((V G).symm.trans J).trans (V H).symm;exact((V H).trans J.symm).trans (V G)
 have K:∀ k,k<=(i:Int)->Con (trk (A.map (rO S top i)++EC x::B) k) t.1 t.2.1:=by intro k j;refine ht.sub fun e d => ?_;rcases ASF.1 d with d|d;exact JD j _ (g _ _ (L8 T _ _ d));rw[ASj]at d;subst d;exact I k j
 refine⟨⟨fun y f => ?_,fun y f => ?_,?_,fun y f h => ?_,fun q k j v hv => ?_⟩,K 0 (by omega)⟩;rcases ASF.1 f with f|f;obtain⟨z,n,rfl⟩:=ASS.1 f;have h1:=E z (s z n);have:=tv (S:=S) (i:=(i:Int)) h1.2;omega;rcases ASW.1 f with rfl|f;exact hG.lvl x r;exact E y (u y f);rcases ASF.1 f with f|f;obtain⟨z,n,rfl⟩:=ASS.1 f;rw[AHF];exact F z (s z n);rcases ASW.1 f with rfl|f;exact hG.ins x r;exact F y (u y f);rw[m,ASL (by omega)];have L:=U 0;rw[Dx (by omega) hit]at L;have hp:(trk A 0++([ed x]++trk B 0)).Perm (trk O 0++[ed x]):=by rw[L,ATo];exact List.Perm.append_left _ List.perm_append_comm
 refine Fo.perm ?_ hp.symm;have M:=hG.fo;have hcc:cc N (trk O 0++[ed x])=cc N (trk O 0++[t]):=cD fun a b=>by have m0:=JD (ts:=O) (show(0:Int)<=(i:Int) by omega);constructor;intro c;refine c.cut fun e d => ?_;rcases ASF.1 d with d|d;exact .edge _ (ASF.2 (.inl d));rw[ASj]at d;subst d;refine C.sub fun e d => ?_;rcases ASF.1 d with d|d;exact ASF.2 (.inl (m0 _ d));exact ASF.2 (.inr d);intro c;refine c.cut fun e d => ?_;rcases ASF.1 d with d|d;exact .edge _ (ASF.2 (.inl d));rw[ASj]at d;subst d;refine ht.sub fun e d => ?_;rcases ASF.1 d with d|d;exact ASF.2 (.inl (m0 _ d));exact ASF.2 (.inr d)
 unfold Fo at M |-;rw[hcc,ASN]at *;exact M;-- others
 have P:∀ y:Tie,y∈O->y.2.2.2.1=false->Con (trk (A.map (rO S top i)++EC x::B) y.2.2.1) y.1 y.2.1:=by intro y f h;by_cases hle:y.2.2.1<=(i:Int);refine(hG.lie2 y f h (by omega)).cut fun e d => ?_;rcases ASF.1 d with d|d;exact .edge _ (g _ _ (L8 T _ _ d));rw[ASj]at d;subst d;exact K _ hle;exact(hG.lie1 y f h (by omega)).sub fun e d=>g _ _ (L8 T _ _ d)
 rcases ASF.1 f with f|f;obtain⟨z,n,rfl⟩:=ASS.1 f;rw[jO]at h;have Q:=Ze hG hit (s z n) h;by_cases R:z.2.2.1=(i:Int)/\both S z=true;have d:rO S top i z=FT top z:=by unfold rO;rw[ASL ⟨h,R.1,R.2⟩]
 rw[d];exact(hG.aL hit hL Q R.1 R.2).sub (g _);have d:rO S top i z=z:=by unfold rO;rw[ASH (fun q=>R ⟨q.2.1,q.2.2⟩)]
 rw[d];exact P z Q h;rcases ASW.1 f with rfl|f;cases h;exact P y (Ze hG hit (u y f) h) h;by_cases p:(k:Int)<=(i:Int);refine ASs (Vr fun w hw hc => ?_) (hG.halt q k (by omega) j v hv);refine hc.cut fun e d => ?_;rw[m,ASL p]at d;have D:=U (k:Int);rw[Dx p hit]at D;rcases ASF.1 d with d|d;exact .edge _ (ASF.2 (.inl (by rw[D];simp[d])));rcases ASF.1 d with d|d;rw[ASj]at d;subst d;refine C.sub fun e d => ?_;rcases ASF.1 d with d|d;exact ASF.2 (.inl (JD p _ d));exact ASF.2 (.inr d);exact .edge _ (ASF.2 (.inl (by rw[D];simp[d])));have:trk (A.map (rO S top i)++EC x::B) (k:Int)=trk (O.map (rT S top i)) (k:Int):=by rw[m,ASH p,U];rfl
 rw[this];exact hG.APU hit hL q k j v hv
end
theorem RW.ARK{p:Prop}{N:Nat}{top:Int}{P Q:List Tie}{t:Tie}(h:RW p N top (P++t::Q))(r:t.2.2.2.1=true):Km p N top (ed t) (t.2.2.1+1) (P++Q):=by
 have j:∀ x∈P++Q,x∈P++t::Q:=fun x b=>by rcases ASF.1 b with b|b;simp[b];simp[b]
 have d:∀ k,trk (P++t::Q) k=trk P k++((if k<=t.2.2.1 then [ed t]else [])++trk Q k):=by intro k;rw[show P++t::Q=P++([t]++Q)from rfl,Cl,Cl];congr 2;unfold trk;rw[ATJ,r];by_cases g:k<=t.2.2.1;rw[ASL g,AR9 g];rfl;rw[ASH g,AR8 g];rfl
 have i:∀ k e,e∈trk (P++t::Q) k->e∈trk (P++Q) k++[ed t]:=by intro k e a;rw[d]at a;rw[Cl];rcases ASF.1 a with a|a;simp[a];rcases ASF.1 a with a|a;split at a;rw[ASj]at a;subst a;simp;cases a;simp[a]
 have f:∀ k e,e∈trk (P++Q) k->e∈trk (P++t::Q) k:=by intro k e a;rw[Cl]at a;rw[d];rcases ASF.1 a with a|a;simp[a];simp[a]
 have l:=h.lvl t (by simp);refine⟨fun x b=>h.lvl x (j x b),fun x b=>h.ins x (j x b),h.ins t (by simp),?_,fun x b m s => ?_,fun x b m s=>(h.lie x (j x b) m).sub (i _),fun q k g v n=>ASs (Vr fun w u c=>c.sub (f k)) (h.halv q k g v n),fun q k y o v n=>ASs (Vr fun w u c => ?_) (h.halv q k o v n)⟩;refine h.fo.perm ?_;rw[d,ASL l.1,Cl,ATo];exact List.Perm.append_left _ List.perm_append_comm;have:=h.lie x (j x b) m;rw[d,ASH (by omega)]at this;rw[Cl];exact this;refine c.sub fun e a => ?_;rcases ASF.1 a with a|a;exact f k e a;rw[ASj]at a;subst a;rw[d,ASL (by omega)];simp
theorem Km.end{a:Prop}{N:Nat}{top:Int}{t:Edge}{O:List Tie}(h:Km a N top t 0 O):RW a N top O/\¬ Con (trk O 0) t.1 t.2.1:=by refine⟨⟨h.lvl,h.ins,h.fo.front (Rn h.ins 0) (fun e b=>by rw[ASj]at b;subst b;exact h.it),fun x c d=>h.lie1 x c d (h.lvl x c).1,h.halv⟩,h.fo.yw (Rn h.ins 0) h.it⟩
theorem RW.other{d:Prop}{N:Nat}{top:Int}{P Q:List Tie}{t:Tie}(h:RW d N top (P++t::Q))(e:t.2.2.2.1=false):RW d N top (P++Q):=by
 have c:∀ x∈P++Q,x∈P++t::Q:=fun x a=>by rcases ASF.1 a with a|a;simp[a];simp[a]
 have b:∀ k,trk (P++t::Q) k=trk (P++Q) k:=by intro k;rw[show P++t::Q=P++([t]++Q)from rfl,Cl,Cl,Cl];congr 1;unfold trk;rw[ATJ,e];rfl
 refine⟨fun x a=>h.lvl x (c x a),fun x a=>h.ins x (c x a),by rw[<- b];exact h.fo,fun x a f=>by rw[<- b];exact h.lie x (c x a) f,fun q k g v i=>by rw[<- b];exact h.halv q k g v i⟩
theorem RW.span{i:Prop}{N:Nat}{top:Int}{O:List Tie}(h:RW i N top O)(a b:Int):Con (O.map ed) a b↔Con (trk O 0) a b:=by constructor;intro c;refine c.cut fun e f => ?_;obtain⟨x,d,rfl⟩:=ASS.1 f;cases g:x.2.2.2.1;exact(h.lie x d g).sub (JD (h.lvl x d).1);exact .edge _ (EM.2 ⟨x,d,g,(h.lvl x d).1,rfl⟩);intro c;refine c.sub fun e f => ?_;obtain⟨x,j,_,_,rfl⟩:=EM.1 f;exact ASS.2 ⟨x,j,rfl⟩
theorem Snd.below{N:Nat}{top:Nat}{O:List Tie}(h:Snd N (top:Int) O)(p:N/2 ^ top<=1){x:Tie}(c:x∈O)(d:x.1≠x.2.1):x.2.2.1<(top:Int):=by
 have q:=h.lvl x c;refine ATI fun r => ?_;have j:x.2.2.1=(top:Int):=by omega
 obtain⟨⟨k,s⟩,m,t⟩:=h.ins x c;obtain⟨u,n⟩:=ASD k;obtain⟨v,o⟩:=ASD m;have g:Con (trk O (top:Int)) x.1 x.2.1:=by cases i:x.2.2.2.1;have:=h.lie x c i;rw[j]at this;exact this;exact .edge (l:=trk O (top:Int)) (ed x) (EM.2 ⟨x,c,i,by omega,rfl⟩)
 have e:x.1=(u:Int):=n;have f:x.2.1=(v:Int):=o;rw[e,f]at g d;have w:=AOW (N:=N) (a:=u) (b:=v) (by omega) (by omega) (by omega) g;have y:=h.halv trivial top (AVB _) u (by omega);omega
theorem Snd.grown{N:Nat}{top:Int}{O j:List Tie}{d:List Edge}{new:List Tie}(h:Snd N top O)(H:0<=top)(D:j.Perm (O++new))(B:∀ e∈d,InE N e)
  (y:∀ x∈new,x.2.2.1=0/\ed x∈d) (o:(trk j 0).Perm (trk O 0++Ph (trk O 0) d)):Snd N top j:=by
 have f:∀ x,x∈j↔x∈O\/x∈new:=fun x=>by rw[D.mem_iff,ASF]
 have C:∀ k:Int,0<k->∀ e,e∈trk j k↔e∈trk O k:=by intro k C e;rw[EM,EM];constructor;rintro⟨t,i,m,n,r⟩;rcases(f t).1 i with i|i;exact⟨t,i,m,n,r⟩;have:=(y t i).1;omega;rintro⟨t,i,m,n,r⟩;exact⟨t,(f t).2 (.inl i),m,n,r⟩
 have s:∀ k:Int,∀ e∈trk O k,e∈trk j k:=fun k e u=>by obtain⟨t,i,m,n,r⟩:=EM.1 u;exact EM.2 ⟨t,(f t).2 (.inl i),m,n,r⟩
 refine⟨fun x g => ?_,fun x g => ?_,?_,fun x g E => ?_,fun q k z v F => ?_⟩;rcases(f x).1 g with g|g;exact h.lvl x g;have:=(y x g).1;omega;rcases(f x).1 g with g|g;exact h.ins x g;exact B _ (y x g).2;refine Fo.perm ?_ o.symm;have i:=WC d (trk O 0) B;have m:cc N (trk O 0++d)=cc N (trk O 0++Ph (trk O 0) d):=cD fun a b=>bu d (trk O 0);have n:=h.fo;unfold Fo at *;rw[ASN];omega;rcases(f x).1 g with g|g;exact(h.lie x g E).sub (s _);obtain⟨G,u⟩:=y x g;rw[G,zm fun e=>o.mem_iff,<- bu];exact .edge (l:=trk O 0++d) (ed x) (ASF.2 (.inr u));by_cases A:k=0;subst A;have:csz N (trk j ((0:Nat):Int)) (v:Int)<=N:=by unfold csz;have:=List.countP_le_length (p:=fun(w:Nat)=>FV (trk j ((0:Nat):Int)) (v:Int) (w:Int)) (l:=List.range N);rw[ASP]at this;exact this
 simp only[Nat.pow_zero,Nat.div_one];omega;exact ASs (Vr fun w I c=>c.sub fun e u=>(C k (by omega) e).1 u) (h.halv q k z v F)
theorem AKl{σ ρ:Type}{step:σ->Option (σ⊕ρ)}(st:Nat->Nat->σ)(P:Nat->Bool)(fin:Nat->ρ)(c hi:Nat)
  (h:∀ i j,c<=i->i<j->j<=hi->step (st i j)=some (.inl (if P ((i+j)/2)=true then st ((i+j)/2+1) j else st i ((i+j)/2))))
  (p:∀ i,c<=i->i<=hi->step (st i i)=some (.inr (fin i)))
  (mono:∀ x y,c<=x->x<=y->y<hi->P y=true->P x=true) :
  ∀ (m i j n:Nat),j-i=m->c<=i->i<=j->j<=hi->m<n->(∀ x,c<=x->x<i->P x=true)->(∀ x,j<=x->x<hi->P x=false) ->
  ∃ k,c<=k/\k<=hi/\(∀ x,c<=x->x<k->P x=true)/\(∀ x,k<=x->x<hi->P x=false)/\BD step n (st i j)=some (fin k):=by
 intro m;induction m using Nat.strongRecOn with
  |ind m g=>
   intro i j n t hi q d u l o;obtain⟨n,rfl⟩:∃ k,n=k+1:=⟨n-1,by omega⟩
   by_cases r:i=j;subst r;exact⟨i,hi,d,l,o,by rw[BD,p i hi d]⟩;have f:i<j:=by omega
   rw[BD,h i j hi f d];by_cases e:P ((i+j)/2)=true;rw[ASL e];exact g (j-((i+j)/2+1)) (by omega) ((i+j)/2+1) j n rfl (by omega) (by omega) d (by omega) (fun x a b=>mono x ((i+j)/2) a (by omega) (by omega) e) o;rw[ASH e];refine g ((i+j)/2-i) (by omega) i ((i+j)/2) n rfl hi (by omega) (by omega) (by omega) l (fun x a b => ?_);cases s:P x;rfl;exact absurd (mono ((i+j)/2) x (by omega) a b s) e
theorem AR1{σ ρ:Type}{step:σ->Option (σ⊕ρ)}(st:Nat->Nat->σ)(P:Nat->Bool)(fin:Nat->ρ)(c hi:Nat)(d:c<=hi)(f:hi<9223372036854775808)
  (h:∀ i j,c<=i->i<j->j<=hi->step (st i j)=some (.inl (if P ((i+j)/2)=true then st ((i+j)/2+1) j else st i ((i+j)/2))))
  (e:∀ i,c<=i->i<=hi->step (st i i)=some (.inr (fin i)))
  (mono:∀ x y,c<=x->x<=y->y<hi->P y=true->P x=true) :
  ∃ k,c<=k/\k<=hi/\(∀ x,c<=x->x<k->P x=true)/\(∀ x,k<=x->x<hi->P x=false)/\A9 step many (st c hi)=some (fin k):=by
 have g:9223372036854775808<many:=by simp only[many];omega
 rw[BR];exact AKl st P fin c hi h e mono (hi-c) c hi many rfl (ASG _) d (ASG _) (by omega) (fun x a b=>by omega) (fun x a b=>by omega)
end Go.Pev.Pl
end
section
section
namespace Go.Pev.Pl
structure UF(N:Nat)(s:List Int)(c:Int->Int):Prop where
 len:s.length=N
 lo:∀ k,k<N->0<=s.getD k 0/\s.getD k 0<=(k:Int)
 par:∀ k,k<N->c (s.getD k 0)=c (k:Int)
 root:∀ k,k<N->s.getD k 0=(k:Int)->c (k:Int)=(k:Int)
 le:∀ k,k<N->0<=c (k:Int)/\c (k:Int)<=(k:Int)
theorem ZB{s:List Int}{k:Nat}(x:Int)(h:k<s.length)(j:Nat):(s.set k x).getD j 0=if j=k then x else s.getD j 0:=by simp only[ASY];by_cases a:j=k;subst a;rw[AU8 h,ASL rfl];rfl;rw[AUp (ATy a),ASH a]
theorem UF.idem{N:Nat}{s:List Int}{c:Int->Int}(h:UF N s c):∀ (m k:Nat),k<=m->k<N->c (c (k:Int))=c (k:Int):=by
 intro m;induction m with
  |zero=>
   intro k d a;have:=h.le k a;have e:c (k:Int)=(k:Int):=by omega
   rw[e,e]
  |succ m f=>
   intro k d a;have g:=h.lo k a;by_cases i:s.getD k 0=(k:Int)
   have e:=h.root k a i;rw[e,e];obtain⟨j,l⟩:=ASD g.1;have b:=h.par k a;rw[l]at b;rw[<- b];exact f j (by omega) (by omega)
theorem UF.top{N:Nat}{s:List Int}{c:Int->Int}(h:UF N s c){k:Nat}(d:k<N):s.getD (c (k:Int)).toNat 0=c (k:Int):=by
 have e:=h.le k d;obtain⟨j,f⟩:=ASD e.1;have hi:=h.idem k k (ASG _) d;rw[f]at hi |-;have a:j<N:=by omega
 have g:=h.lo j a;have l:=h.par j a;obtain⟨i,b⟩:=ASD g.1;rw[b]at l;have m:=h.le i (by omega);show s.getD j 0=_;omega
theorem JN{N:Nat}{c:Int->Int}(I:N<=64):∀ {s:List Int} (_:UF N s c) {v:Nat} (_:v<N),∃ a,T2 (s,(v:Int),())=some (a,c (v:Int),())/\UF N a c/\∀ j,j<N->s.getD j 0=c (j:Int)->a.getD j 0=c (j:Int):=by
 intro s D v E;rw[ec,Y9]
 obtain⟨r,e,h⟩:=vp (step:=Tz)
  (fun st=>∃ (a:List Int) (w:Nat),st=(a,(w:Int),())/\w<N/\UF N a c/\c (w:Int)=c (v:Int)/\∀ j,j<N->s.getD j 0=c (j:Int)->a.getD j 0=c (j:Int))
  (fun r=>∃ a,r = .inl (a,c (v:Int),())/\UF N a c/\∀ j,j<N->s.getD j 0=c (j:Int)->a.getD j 0=c (j:Int)) (fun st=>st.2.1.toNat)
  (fun st u=>by
   obtain⟨a,w,rfl,o,d,B,f⟩:=u
   have F:=d.len
   have G:=d.lo w o
   rw[Tz]
   simp only[Dr 0 (show w<a.length by omega),Gk,BB]
   by_cases x:a.getD w 0=(w:Int)
   ·right
    rw[AR9 x]
    refine⟨_,rfl,a,?_,d,f⟩
    rw[<- B,d.root w o x]
   ·left
    rw[AR8 x]
    obtain⟨p,l⟩:=ASD G.1
    have i:p<N:=by omega
    have y:=d.lo p i
    obtain⟨q,t⟩:=ASD y.1
    have z:q<N:=by omega
    simp only[ASf,l,Dr 0 (show p<a.length by omega),Gk,DX,t]
    have m:(a.set w (q:Int)).length=N:=by rw[ATp];exact F
    have b:=fun j=>ZB (q:Int) (show w<a.length by omega) j
    simp only[Dr 0 (show w<(a.set w (q:Int)).length by omega),b,ASh]
    refine⟨_,rfl,⟨_,q,rfl,z,?_,?_,?_⟩,?_⟩
    ·refine⟨m,fun k f => ?_,fun k f => ?_,fun k f g => ?_,d.le⟩
     ·rw[b]
      by_cases e:k=w
      ·rw[ASL e];omega
      ·rw[ASH e];exact d.lo k f
     ·rw[b]
      by_cases e:k=w
      ·subst e
       rw[ASL rfl,<- t,d.par p i,<- l,d.par k o]
      ·rw[ASH e];exact d.par k f
     ·rw[b]at g
      by_cases e:k=w
      ·subst e;rw[ASL rfl]at g;omega
      ·rw[ASH e]at g;exact d.root k f g
    ·rw[<- B,<- t,d.par p i,<- l,d.par w o]
    ·intro j A n
     rw[b]
     by_cases e:j=w
     ·subst e
      rw[ASL rfl]
      have:=f j A n
      have C:=d.top A
      rw[<- this,l,ASv]at C
      rw[<- t,C,<- l,this]
     ·rw[ASH e];exact f j A n
    ·show(q:Int).toNat<(w:Int).toNat
     omega)
  (s,(v:Int),()) ⟨s,v,rfl,E,D,rfl,fun _ _ h=>h⟩ (by simp only[many];omega)
 obtain⟨a,rfl,y,H⟩:=h;rw[e];exact⟨a,rfl,y,H⟩
theorem KY(a b:Int):C7 a b=min a b:=by unfold C7;split<;>omega
theorem Mf(a b:Int):imax a b=max a b:=by unfold imax;split<;>omega
theorem DB{N i x:Nat}(h:(List.range N)[i]? = some x):x=i:=by rw[ASM]at h;obtain⟨b,a⟩:=h;simpa using a.symm
def fE(c:Int->Int)(u v:Int):Int->Int:=fun x=>if c x=max (c u) (c v)then min (c u) (c v)else c x
theorem ee{N:Nat}(q:N<=64){c:Int->Int}{s:List Int}(A:UF N s c){u v:Nat}(l:u<N)(n:v<N):∃ r b,nV (s,(u:Int),(v:Int),())=some (r,b,())/\UF N r (fE c u v):=by
 obtain⟨J,B,C,_⟩:=JN q A l;obtain⟨t,D,f,_⟩:=JN q C n;rw[Y_,Xu];simp only[B,D,KY,Mf];have K:=f.le u l;have L:=f.le v n;have w:=f.idem u u (ASG _) l;have y:=f.idem v v (ASG _) n;obtain⟨M,o⟩:=ASD (show 0<=max (c (u:Int)) (c (v:Int)) by omega);obtain⟨m,p⟩:=ASD (show 0<=min (c (u:Int)) (c (v:Int)) by omega);have E:M<N:=by omega
 have F:m<N:=by omega
 have G:=f.len;have z:c (M:Int)=(M:Int):=by rw[<- o];rcases Int.le_total (c (u:Int)) (c (v:Int))with h|h;rw[AUW h];exact y;rw[Int.max_eq_left h];exact w
 have H:c (m:Int)=(m:Int):=by rw[<- p];rcases Int.le_total (c (u:Int)) (c (v:Int))with h|h;rw[AUK h];exact w;rw[Int.min_eq_right h];exact y
 rw[o,p];simp only[Dr 0 (show M<t.length by omega),DX];refine⟨_,_,rfl,?_⟩;have a:=fun j=>ZB (m:Int) (show M<t.length by omega) j;have g:∀ x,fE c u v x=if c x=(M:Int)then(m:Int)else c x:=by intro x;unfold fE;rw[o,p]
 refine⟨by rw[ATp];exact G,fun k i => ?_,fun k i => ?_,fun k i d => ?_,fun k i => ?_⟩;rw[a];by_cases e:k=M;rw[ASL e];omega;rw[ASH e];exact f.lo k i;rw[a,g,g];by_cases e:k=M;subst e;rw[ASL rfl,ASL z,H];split<;>rfl;rw[ASH e,f.par k i];rw[a]at d;rw[g];by_cases e:k=M;subst e;rw[ASL rfl]at d;rw[ASL z];exact d;rw[ASH e]at d;have I:=f.root k i d;rw[I,ASH (by omega)];rw[g];have:=f.le k i;split<;>omega
theorem ZL(N:Nat)(h:N<=64):ZN ((N:Int),())=some ((List.range N).map fun(k:Nat)=>(k:Int),()):=by
 rw[ep,ZM];have f:Cq (N:Int)=true:=(I7 _).2 (by omega);rw[f,Dq,AR9 (ASG _)];simp only[ATl];have g:ED (A3 (N:Int)) (0:Int)=List.replicate N 0:=by simp[ED,A3]
 rw[g]
 have e:=DL (step:=LF) (fun i (a:List Int)=>(a,(N:Int),(i:Int),())) (List.range N) (fun(k:Nat) a=>.inl (a.set k (k:Int))) (fun a=>.inl (a,())) (fun i a=>a.length=N) (by simp;omega)
  (fun i x a hi j l=>by
   refine⟨fun o b => ?_,fun r b=>by cases b⟩
   cases b
   have:=DB j
   subst this
   rw[ASP]at hi
   rw[LF,A2,AR9 hi]
   simp only[Dr 0 (show x<a.length by omega),DX]
   rw[A5 (by omega)]
   exact⟨rfl,by rw[ATp];exact l⟩)
  (fun a _=>by rw[LF,ASP,A2,AR8 (by omega)]) (List.replicate N 0) (by simp)
 have m:A9 LF many (List.replicate N 0,(N:Int),(0:Int),())=_:=e;rw[show A4 (List.replicate N (0:Int))=(N:Int) by simp[A4]];rw[m,B2];have c:∀ M,M<=N->(List.range M).foldl (fun(a:List Int) (k:Nat)=>a.set k (k:Int)) (List.replicate N 0)=((List.range M).map fun(k:Nat)=>(k:Int))++List.replicate (N-M) 0:=by
  intro M;induction M with
   |zero=>intro _;simp
   |succ M n=>
    intro p;rw[ASi,ATN,n (by omega)];simp only[AS2,List.foldl_nil,ASz,ASQ,ATk];rw[List.set_append_right _ _ (by simp)];obtain⟨d,hd⟩:∃ d,N-M=d+1:=⟨N-M-1,by omega⟩
    rw[hd,show N-(M+1)=d by omega];simp[List.replicate_succ]
 rw[c N (ASG _)];simp
theorem r7(N:Nat):UF N ((List.range N).map fun(k:Nat)=>(k:Int)) (fun x=>x):=by
 have b:∀ k,k<N->((List.range N).map fun(k:Nat)=>(k:Int)).getD k 0=(k:Int):=by intro k a;simp[ASY,a]
 exact⟨by simp,fun k a=>by rw[b k a];omega,fun k a=>b k a,fun k a _=>rfl,fun k a=>by omega⟩
def cW(N:Nat)(c:Int->Int)(l:List Edge):Prop:=∀ a b,In (N:Int) a->In (N:Int) b->(c a=c b↔Con l a b)
theorem cW.snoc{N:Nat}{c:Int->Int}{l:List Edge}{e:Edge}(h:cW N c l)(g:In (N:Int) e.1)(i:In (N:Int) e.2.1):cW N (fE c e.1 e.2.1) (l++[e]):=by intro a b d f;rw[Con.snoc,<- h a b d f,<- h a _ d g,<- h _ b i f,<- h a _ d i,<- h _ b g f];unfold fE;generalize c a=x;generalize c b=y;generalize c e.1=u;generalize c e.2.1=v;split<;>split<;>omega
theorem k7{N:Nat}(I:1<=N)(z:N<=64)(l:List Edge)(J:l.length<1073741824)(r:∀ e∈l,In (N:Int) e.1/\In (N:Int) e.2.1):
  ∃ s bs c,OT (l,(List.range N).map (fun(k:Nat)=>(k:Int)),())=some (s,bs,())/\UF N s c/\cW N c l:=by
 rw[OS,Mw]
 have t:∀ (m i n:Nat) (s:List Int) (bs:List Bool) (c:Int->Int),l.length-i=m->i<=l.length->m<n->bs.length=i->UF N s c->cW N c (l.take i) ->
   ∃ q w c',BD Dw n (s,bs,l,A4 l,(i:Int),())=some (.inl (q,w,()))/\UF N q c'/\cW N c' l:=by
  intro m
  induction m with
  |zero=>
   intro i n s bs c A hi B x j f
   obtain⟨n,rfl⟩:∃ k,n=k+1:=⟨n-1,by omega⟩
   have e:i=l.length:=by omega
   subst e
   rw[BD,Dw,A6,A2,AR8 (by omega)]
   rw[ASc]at f
   exact⟨s,bs,c,rfl,j,f⟩
  |succ m C=>
   intro i n s bs c A hi B x j f
   obtain⟨n,rfl⟩:∃ k,n=k+1:=⟨n-1,by omega⟩
   have d:i<l.length:=by omega
   have y:l[i]? = some l[i]:=by simp[d]
   obtain⟨D,E⟩:=r l[i] (ASu d)
   obtain⟨_,_,F,K⟩:=D
   obtain⟨_,_,G,L⟩:=E
   obtain⟨u,o⟩:=ASD F
   obtain⟨v,p⟩:=ASD G
   obtain⟨q,b,e,g⟩:=ee z j (u:=u) (v:=v) (by omega) (by omega)
   rw[BD,Dw,A6,A2,AR9 d]
   simp only[A' y,o,p,e,A6]
   rw[CC (by rw[x];simp;omega),A5 (by omega)]
   refine C (i+1) n q _ _ (by omega) (by omega) (by omega) (by rw[Ej,ASN,x];rfl) g ?_
   rw[ATc,y]
   have:=f.snoc (e:=l[i]) (r l[i] (ASu d)).1 (r l[i] (ASu d)).2
   rw[o,p]at this
   exact this
 obtain⟨s,bs,c,e,j,f⟩:=t l.length 0 many _ [] _ rfl (ATw _) (by simp only[many];omega) rfl (r7 N) (by intro a b _ _;rw[AUl];exact⟨fun h=>by have h:a=b:=h;rw[h];exact .refl _,fun h=>h.nil⟩)
 have H:A9 Dw many ((List.range N).map (fun(k:Nat)=>(k:Int)),[],l,A4 l,(0:Int),())=_:=(BR _ _ _).trans e;rw[H];exact⟨s,bs,c,rfl,j,f⟩
theorem ZG(n:Int)(l:List Edge)(b:Sz n)(f:l.length<1073741824)(c:∀ e∈l,In n e.1/\In n e.2.1):ZI (n,l,())=some (0,()):=by
 rw[ei,ZH];obtain⟨g,h⟩:=b;rw[BC,AR8 (by omega),BC,AR8 (by omega)]
 have e:=Gg (step:=LB) (fun i=>(n,l,A4 l,(i:Int),())) l (fun _=>false) (fun _=>.inl (10,())) (.inr (.inl ())) (by omega)
  (fun i x hi a=>by
   obtain⟨⟨_,_,j,k⟩,⟨_,_,m,o⟩⟩:=c x (ASJ a)
   rw[LB,A6,A2,AR9 hi]
   simp only[A' a,KY,Mf]
   rw[BC,AR8 (by omega),BM,AR8 (by omega),A5 (by omega)]
   rfl)
  (by rw[LB,A6,A2,AR8 (by omega)])
 have d:A9 LB many (n,l,A4 l,(0:Int),())=_:=e;rw[d];simp
theorem iy(n:Int)(l:List Edge)(E:Sz n)(F:l.length<1073741824)(G:∀ e∈l,In n e.1/\In n e.2.1):∃ out,R2 (n,l,())=some (out,0,())/\KF n l out:=by
 have B:=E;obtain⟨W,X⟩:=E;obtain⟨N,rfl⟩:=ASD (show 0<=n by omega);rw[Wb,QQ];simp only[ZG _ l B F G,BB];obtain⟨s,bs,c,e,w,C⟩:=k7 (N:=N) (by omega) (by omega) l F G;have I:T4 ((List.range N).map (fun(k:Nat)=>(k:Int)),l,())=some (s,bs,()):=by rw[T3,Ry];simp only[e]
 simp only[ASU,ASE,ZL N (by omega),I]
 have D:∀ (m i k:Nat) (s:List Int),N-i=m->i<=N->m<k->UF N s c->(∀ j,j<i->s.getD j 0=c (j:Int)) ->
   ∃ x,BD Hy k (s,(N:Int),(i:Int),())=some (.inl (x,()))/\UF N x c/\∀ j,j<N->x.getD j 0=c (j:Int):=by
  intro m
  induction m with
  |zero=>
   intro i k s J hi K w A
   obtain⟨k,rfl⟩:∃ q,k=q+1:=⟨k-1,by omega⟩
   have e:i=N:=by omega
   subst e
   rw[BD,Hy,A2,AR8 (by omega)]
   exact⟨s,rfl,w,A⟩
  |succ m L=>
   intro i k s J hi K w A
   obtain⟨k,rfl⟩:∃ q,k=q+1:=⟨k-1,by omega⟩
   have u:i<N:=by omega
   obtain⟨x,e,g,v⟩:=JN (by omega) w u
   have M:=g.len
   rw[BD,Hy,A2,AR9 u]
   simp only[e,Dr 0 (show i<x.length by omega),DX]
   rw[A5 (by omega)]
   have p:=fun j=>ZB (c (i:Int)) (show i<x.length by omega) j
   have O:=g.idem i i (ASG _) u
   refine L (i+1) k _ (by omega) (by omega) (by omega) ⟨by rw[ATp];exact M,fun q y => ?_,fun q y => ?_,fun q y r => ?_,g.le⟩ fun j P => ?_
   ·rw[p]
    by_cases e:q=i
    ·subst e;rw[ASL rfl];exact g.le q y
    ·rw[ASH e];exact g.lo q y
   ·rw[p]
    by_cases e:q=i
    ·subst e;rw[ASL rfl];exact O
    ·rw[ASH e];exact g.par q y
   ·rw[p]at r
    by_cases e:q=i
    ·subst e;rw[ASL rfl]at r;exact r
    ·rw[ASH e]at r;exact g.root q y r
   ·rw[p]
    by_cases e:j=i
    ·subst e;rw[ASL rfl]
    ·rw[ASH e];exact v j (by omega) (A j (by omega))
 obtain⟨o,e,g,Q⟩:=D N 0 many s rfl (ATw _) (by simp only[many];omega) w (fun j A=>by omega);have R:A9 Hy many (s,(N:Int),(0:Int),())=_:=(BR _ _ _).trans e;rw[A6,w.len,R];refine⟨o,rfl,?_⟩;have d:∀ a,In (N:Int) a->cl o a=c a/\(0<=c a/\c a<=a)/\c (c a)=c a:=by rintro a ⟨_,_,H,S⟩;obtain⟨k,rfl⟩:=ASD H;refine⟨?_,g.le k (by omega),g.idem k k (ASG _) (by omega)⟩;unfold cl;rw[ASv];exact Q k (by omega)
 have t:∀ a,In (N:Int) a->In (N:Int) (c a):=by intro a f;obtain⟨_,h,_⟩:=d a f;obtain⟨T,U,H,S⟩:=f;exact⟨T,U,by omega,by omega⟩
 refine⟨by rw[g.len],fun a b f z => ?_,fun a f => ?_,fun a f => ?_,fun a b f z V => ?_⟩;rw[(d a f).1,(d b z).1];exact C a b f z;rw[(d a f).1];exact t a f;rw[(d a f).1];exact(C a (c a) f (t a f)).1 (d a f).2.2.symm;rw[(d a f).1,(C a b f z).2 V];exact(d b z).2.1.2
end Go.Pev.Pl
end
section
namespace Go.Pev.Pl
def sh(n:Int):Prop:=0<=n/\n<=65535
instance (n:Int):Decidable (sh n):=inferInstanceAs (Decidable (_/\_))
def tw(n:Int):List Int:=[n/256,n % 256]
theorem fy{α β:Type}(g:β->α):∀ (xs:List β) (a:List α),xs.foldl (fun a x=>a++[g x]) a=a++xs.map g:=by
 intro xs;induction xs with
  |nil=>intro a;simp
  |cons x xs b=>intro a;rw[AS2,b];simp
end Go.Pev.Pl
end
section
namespace Go.Pev.Pl
abbrev Res:=Int×Int×List Int×Unit
def val(r:Res):Prop:=(0<=r.1/\r.1<=255)/\sh r.2.1/\sh (r.2.2.1.length:Int)/\∀ x∈r.2.2.1,sh x
instance (r:Res):Decidable (val r):=inferInstanceAs (Decidable (_/\_/\_/\_))
def enc(r:Res):List Int:=r.1::(tw r.2.1++(tw (r.2.2.1.length:Int)++r.2.2.1.flatMap tw))
end Go.Pev.Pl
end
section
namespace Go.Pev.Pl
theorem Dh(a:Int):ieq a a=true:=by rw[Cd];simp
end Go.Pev.Pl
end
section
namespace Go.Pev.Pl
open Go.RowKit Tok
section
variable {n:Int} {rings:List (List Int)}
theorem au{l:List Edge}{out:List Int}(h:FC n rings l)(c:KF n l out){A:List Int}{u:Int}(d:A∈rings)(a:In n u)(e:u∈A):hd A=cl out u:=by have b:=h.fr.rg A d;have f:=TW b;have g:=kO b.2.1;have i:Con l u (hd A):=(h.sam u (hd A) a f).1 ⟨A,d,e,g⟩;have q:=c.least u (hd A) a f i;have j:=c.isin u a;obtain⟨K,k,m,o⟩:=(h.sam u _ a j).2 (c.con u a);have:=h.fr.one d k a.2.2.2 e m;subst this;have p:=(HE b.2.1).2 _ o;rw[b.2.2.1]at p;have:hd A=A.headD 0:=rfl;omega
end
end Go.Pev.Pl
end
section
namespace Go.Pev.Pl
def JG(n:Nat):Int:=((@NW idI ((n:Int),())).getD (0,())).1
theorem ARq:((List.range 65).all fun k=>decide (@NW idI ((k:Int),())=some (JG k,())))=true:=by kernel_rfl
theorem ARF:((List.range 65).all fun k=>decide (@dL idI ((k:Int),())=some (JG k,())))=true:=by kernel_rfl
theorem O5(n:Nat)(h:n<=64):NW ((n:Int),())=some (JG n,()):=by rw[show NW ((n:Int),()) = @NW idI ((n:Int),())from ASt (fun i=>@NW i ((n:Int),())) Dn];exact AUF (ASd.1 ARq n (by simp;omega))
theorem SV(n:Nat)(h:n<=64):dL ((n:Int),())=some (JG n,()):=by rw[show dL ((n:Int),()) = @dL idI ((n:Int),())from ASt (fun i=>@dL i ((n:Int),())) Dn];exact AUF (ASd.1 ARF n (by simp;omega))
def RN(a b:Int):Int:=if a<b then -1 else if b<a then 1 else 0
theorem M3(a b:Int):Eb (a,b,())=some (RN a b,()):=by rw[IF,HU];simp only[KT,MT,Dh,ASE];unfold RN;rw[BC,BC];by_cases h:a<b;rw[AR9 h,ASL h];rw[AR8 h,ASH h];by_cases c:b<a;rw[AR9 c,ASL c];rw[AR8 c,ASH c]
theorem ji(a b:Int):orI ([a,b],())=some (if a=0 then b else a,()):=by
 rw[jl,pW]
 have e:=Gg (step:=JZ) (fun i=>(0,[a,b],A4 [a,b],(i:Int),())) [a,b] (fun x => !decide (x=0)) (fun i=>.inl ([a,b].getD i 0,())) (.inr (.inl (0,()))) (by simp)
  (fun i x hi c=>by
   rw[JZ,A6,A2,AR9 hi]
   simp only[A' c,BB]
   have f:i<2:=hi
   rw[A5 (by omega)]
   have g:[a,b].getD i 0=x:=by rw[ASY,c];rfl
   rw[g]
   by_cases h:x=0
   ·simp[h]
   ·simp[h])
  (by rw[JZ,A6,A2,AR8 (by omega)])
 have j:A9 JZ many (0,[a,b],A4 [a,b],(0:Int),())=_:=e;rw[j];by_cases h:a=0;by_cases d:b=0;simp[h,d];simp[h,d,AUk];simp[h,AUk]
theorem j5(p x:Tie):∃ y,Fb (p,x,())=some (y,())/\ile 0 y = !decide (ahead p x):=by
 rw[N_,Mb];simp only[M3,ji];refine⟨_,rfl,?_⟩;rw[BM];by_cases h:ahead p x;rw[AR9 h];unfold ahead at h;unfold RN;rw[AR8];· rfl
 split<;>split<;>(try split)<;>omega;rw[AR8 h];unfold ahead at h;unfold RN;rw[AR9];· rfl
 split<;>split<;>(try split)<;>omega
def NL(N:Nat)(ts:List Tie)(i:Nat):Prop:=
 0<=(ts.getD i zT).1/\(ts.getD i zT).1<(ts.getD i zT).2.1/\(ts.getD i zT).2.1<(N:Int)/\0<=(ts.getD i zT).2.2.1/\(ts.getD i zT).2.2.1<=JG N/\(i=0\/ahead (ts.getD (i-1) zT) (ts.getD i zT))
instance (N:Nat)(ts:List Tie)(i:Nat):Decidable (NL N ts i):=inferInstanceAs (Decidable (_/\_/\_/\_/\_/\_))
def trs(ts:List Tie)(k:Nat):List Edge:=(List.range k).foldl (fun a i=>if(ts.getD i zT).2.2.2.1=true then a++[ed (ts.getD i zT)]else a) []
theorem mw{α β ρ:Type}(P:β->Prop)[DecidablePred P](g:β->α->α)(fin:α->ρ)(b:ρ):∀ (xs:List β) (a:α),walk (fun x a=>if P x then .inl (g x a)else .inr b) fin xs a=if ∀ x∈xs,P x then fin (xs.foldl (fun a x=>g x a) a)else b:=by
 intro xs;induction xs with
  |nil=>intro a;simp[walk]
  |cons x xs c=>intro a;rw[walk];by_cases h:P x;rw[ASL h];simp only[];rw[c];simp[h];rw[ASH h];simp[h]
theorem Yk(ts:List Tie)(k:Nat):trs ts (k+1)=if(ts.getD k zT).2.2.2.1=true then trs ts k++[ed (ts.getD k zT)]else trs ts k:=by unfold trs;rw[ASi,ATN];rfl
theorem Rl(ts:List Tie):∀ k,(trs ts k).length<=k:=by
 intro k;induction k with
  |zero=>exact ASG _
  |succ k a=>rw[Yk];split;rw[ASN];simp;omega;omega
theorem ALk(ts:List Tie)(e:Edge):∀ k,e∈trs ts k->∃ i,i<k/\e=ed (ts.getD i zT):=by
 intro k;induction k with
  |zero=>intro h;simp[trs]at h
  |succ k b=>intro h;rw[Yk]at h;split at h;rcases ASF.1 h with h|h;obtain⟨i,c,a⟩:=b h;exact⟨i,by omega,a⟩;simp only[ASj]at h;exact⟨k,by omega,h⟩;obtain⟨i,c,a⟩:=b h;exact⟨i,by omega,a⟩
def oks(N:Nat)(ts:List Tie):Prop:=∀ i∈List.range ts.length,NL N ts i
instance (N:Nat)(ts:List Tie):Decidable (oks N ts):=inferInstanceAs (Decidable (∀ i∈List.range ts.length,NL N ts i))
theorem pn(N:Nat)(D:N<=64)(ts:List Tie)(E:ts.length<=400):
  A9 HH many ((N:Int),ts,JG N,ts,A4 ts,(0:Int),())=some (if oks N ts then .inr (.inl ((N:Int),ts,()))else .inl (false,())):=by
 have e:=DL (step:=HH) (fun i (_:Unit)=>((N:Int),ts,JG N,ts,A4 ts,(i:Int),())) (List.range ts.length) (fun i a=>if NL N ts i then .inl a else .inr (.inl (false,()))) (fun _=>.inr (.inl ((N:Int),ts,()))) (fun _ _=>True) (by simp;omega)
  (fun i x a hi w _=>by
   have:=DB w
   subst this
   rw[ASP]at hi
   have step:HH ((N:Int),ts,JG N,ts,A4 ts,(x:Int),())=if NL N ts x then some (.inl ((N:Int),ts,JG N,ts,A4 ts,((x+1:Nat):Int),()))else some (.inr (.inl (false,()))):=by
    rw[HH,A6,A2,AR9 hi]
    simp only[Dr zT hi]
    obtain⟨t,n⟩:∃ t,ts.getD x zT=t:=⟨_,rfl⟩
    have b:NL N ts x↔(0<=t.1/\t.1<t.2.1/\t.2.1<(N:Int)/\0<=t.2.2.1/\t.2.2.1<=JG N/\(x=0\/ahead (ts.getD (x-1) zT) t)):=by unfold NL;rw[n]
    rw[n]
    rw[BC,BM,BM,BC,BC]
    by_cases o:t.1<0
    ·rw[AR9 o,ASH (fun h=>by obtain⟨d,f,g,j,k,_⟩:=b.1 h;omega)]
    rw[AR8 o]
    by_cases p:t.2.1<=t.1
    ·rw[AR9 p,ASH (fun h=>by obtain⟨d,f,g,j,k,_⟩:=b.1 h;omega)]
    rw[AR8 p]
    by_cases q:(N:Int)<=t.2.1
    ·rw[AR9 q,ASH (fun h=>by obtain⟨d,f,g,j,k,_⟩:=b.1 h;omega)]
    rw[AR8 q]
    by_cases s:t.2.2.1<0
    ·rw[AR9 s,ASH (fun h=>by obtain⟨d,f,g,j,k,_⟩:=b.1 h;omega)]
    rw[AR8 s]
    by_cases u:JG N<t.2.2.1
    ·rw[AR9 u,ASH (fun h=>by obtain⟨d,f,g,j,k,_⟩:=b.1 h;omega)]
    rw[AR8 u]
    simp only[]
    rw[A5 (by omega),BC]
    by_cases v:x=0
    ·subst v
     rw[AR8 (by omega),ASL (b.2 ⟨by omega,by omega,by omega,by omega,by omega,.inl rfl⟩)]
    ·rw[AR9 (by omega),BG (by omega),show((x:Int)-1)=((x-1:Nat):Int) by omega]
     simp only[Dr zT (show x-1<ts.length by omega)]
     obtain⟨y,z,A⟩:=j5 (ts.getD (x-1) zT) t
     have m:Fb (((ts.getD (x-1) zT).1,((ts.getD (x-1) zT).2.1,((ts.getD (x-1) zT).2.2.1,((ts.getD (x-1) zT).2.2.2.1,())))),(t.1,(t.2.1,(t.2.2.1,(t.2.2.2.1,())))),())=some (y,()):=z
     simp only[m,A]
     by_cases l:ahead (ts.getD (x-1) zT) t
     ·rw[AR9 l,ASL (b.2 ⟨by omega,by omega,by omega,by omega,by omega,.inr l⟩)]
      rfl
     ·rw[AR8 l,ASH (fun h=>by rcases(b.1 h).2.2.2.2.2 with h|h;exact v h;exact l h)]
      rfl
   by_cases h:NL N ts x
   ·rw[ASL h]at step |-
    refine⟨fun B c => ?_,fun r c=>(by cases c)⟩
    cases c
    exact⟨step,trivial⟩
   ·rw[ASH h]at step |-
    refine⟨fun B c=>(by cases c),fun r c => ?_⟩
    cases c
    exact step)
  (fun a _=>by rw[HH,ASP,A6,A2,AR8 (by omega)]) () trivial
 have C:A9 HH many ((N:Int),ts,JG N,ts,A4 ts,(0:Int),())=_:=e;rw[C,mw (NL N ts) (fun _ a=>a)];rfl
theorem R7(N:Nat)(A:N<=64)(ts:List Tie)(F:ts.length<=400):
  A9 Fs many ((N:Int),ts,[],(0:Int),())=some (if oks N ts then .inr (.inl ((N:Int),ts,trs ts ts.length,()))else .inl (false,())):=by
 have e:=DL (step:=Fs) (fun i (a:List Edge)=>((N:Int),ts,a,(i:Int),())) (List.range ts.length) (fun i a=>if NL N ts i then .inl (if(ts.getD i zT).2.2.2.1=true then a++[ed (ts.getD i zT)]else a)else .inr (.inl (false,()))) (fun a=>.inr (.inl ((N:Int),ts,a,()))) (fun i a=>a.length<=i) (by simp;omega)
  (fun i x a hi B G=>by
   have:=DB B
   subst this
   rw[ASP]at hi
   have step:Fs ((N:Int),ts,a,(x:Int),())=if NL N ts x then some (.inl ((N:Int),ts,if(ts.getD x zT).2.2.2.1=true then a++[ed (ts.getD x zT)]else a,((x+1:Nat):Int),()))else some (.inr (.inl (false,()))):=by
    rw[Fs,A6,A2,AR9 hi]
    simp only[Dr zT hi,O5 N A]
    obtain⟨t,o⟩:∃ t,ts.getD x zT=t:=⟨_,rfl⟩
    have b:NL N ts x↔(0<=t.1/\t.1<t.2.1/\t.2.1<(N:Int)/\0<=t.2.2.1/\t.2.2.1<=JG N/\(x=0\/ahead (ts.getD (x-1) zT) t)):=by unfold NL;rw[o]
    rw[o]
    rw[BC,BM,BM,BC,BC]
    by_cases q:t.1<0
    ·rw[AR9 q,ASH (fun h=>by obtain⟨g,j,k,l,m,_⟩:=b.1 h;omega)]
    rw[AR8 q]
    by_cases s:t.2.1<=t.1
    ·rw[AR9 s,ASH (fun h=>by obtain⟨g,j,k,l,m,_⟩:=b.1 h;omega)]
    rw[AR8 s]
    by_cases u:(N:Int)<=t.2.1
    ·rw[AR9 u,ASH (fun h=>by obtain⟨g,j,k,l,m,_⟩:=b.1 h;omega)]
    rw[AR8 u]
    by_cases v:t.2.2.1<0
    ·rw[AR9 v,ASH (fun h=>by obtain⟨g,j,k,l,m,_⟩:=b.1 h;omega)]
    rw[AR8 v]
    by_cases w:JG N<t.2.2.1
    ·rw[AR9 w,ASH (fun h=>by obtain⟨g,j,k,l,m,_⟩:=b.1 h;omega)]
    rw[AR8 w]
    simp only[A6]
    have c:fits ((a.length:Int)+(([(t.1,t.2.1,())]:List Edge).length:Int))=true:=CC (by simp;omega)
    rw[A5 (by omega),BC]
    by_cases C:x=0
    ·subst C
     rw[AR8 (by omega),ASL (b.2 ⟨by omega,by omega,by omega,by omega,by omega,.inl rfl⟩)]
     cases f:t.2.2.2.1
     ·simp
     ·simp only[c]
      simp[ed,B6]
    ·rw[AR9 (by omega),BG (by omega),show((x:Int)-1)=((x-1:Nat):Int) by omega]
     simp only[Dr zT (show x-1<ts.length by omega),BB]
     generalize ts.getD (x-1) zT=p at b |-
     rw[BC,BM]
     by_cases y:t.1<p.1
     ·rw[AR9 y,ASH (fun h=>by rcases(b.1 h).2.2.2.2.2 with h|h|h<;>omega)]
     rw[AR8 y]
     by_cases n:p.1=t.1
     ·rw[AR9 n]
      by_cases z:t.2.1<=p.2.1
      ·rw[AR9 z,ASH (fun h=>by rcases(b.1 h).2.2.2.2.2 with h|h|h<;>omega)]
      rw[AR8 z,ASL (b.2 ⟨by omega,by omega,by omega,by omega,by omega,.inr (.inr ⟨n,by omega⟩)⟩)]
      cases f:t.2.2.2.1
      ·simp
      ·simp only[c]
       simp[ed,B6]
     ·rw[AR8 n,ASL (b.2 ⟨by omega,by omega,by omega,by omega,by omega,.inr (.inl (by omega))⟩)]
      cases f:t.2.2.2.1
      ·simp
      ·simp only[c]
       simp[ed,B6]
   by_cases h:NL N ts x
   ·rw[ASL h]at step |-
    refine⟨fun D d => ?_,fun r d=>(by cases d)⟩
    cases d
    refine⟨step,?_⟩
    split
    ·rw[ASN];simp;omega
    ·omega
   ·rw[ASH h]at step |-
    refine⟨fun D d=>(by cases d),fun r d => ?_⟩
    cases d
    exact step)
  (fun a _=>by rw[Fs,ASP,A6,A2,AR8 (by omega)]) [] (ASG _)
 have E:A9 Fs many ((N:Int),ts,[],(0:Int),())=_:=e;rw[E,mw (NL N ts) (fun i a=>if(ts.getD i zT).2.2.2.1=true then a++[ed (ts.getD i zT)]else a)];rfl
end Go.Pev.Pl
end
end
section
section
namespace Go.Pev.Pl
theorem yt{N:Nat}{ts:List Tie}(c:N<=64){i:Nat}(h:NL N ts i):In (N:Int) (ed (ts.getD i zT)).1/\In (N:Int) (ed (ts.getD i zT)).2.1:=by obtain⟨a,d,b,_⟩:=h;exact⟨⟨by omega,by omega,a,by show(ts.getD i zT).1<_;omega⟩,⟨by omega,by omega,by show 0<=(ts.getD i zT).2.1;omega,b⟩⟩
theorem Yl{N:Nat}{ts:List Tie}(a:N<=64)(h:oks N ts):∀ e∈trs ts ts.length,In (N:Int) e.1/\In (N:Int) e.2.1:=by intro e b;obtain⟨i,hi,rfl⟩:=ALk ts e _ b;exact yt a (h i (by simp[hi]))
theorem AQq{N:Nat}{ts:List Tie}(a:N<=64)(h:oks N ts):∀ e∈ts.map ed,In (N:Int) e.1/\In (N:Int) e.2.1:=by intro e b;obtain⟨t,c,rfl⟩:=ASS.1 b;obtain⟨i,hi,rfl⟩:=AS5 c;have:=yt a (h i (by simp[hi]));simpa [hi]using this
theorem aG{N:Nat}(ts:List Tie)(k:ts.length<=400)(h:oks N ts):UU (((N:Int),(ts,())),(0:Int),())=some (trs ts ts.length,()):=by
 rw[UT,SU]
 have e:=DL (step:=FE) (fun i (a:List Edge)=>((0:Int),a,ts,A4 ts,(i:Int),())) (List.range ts.length) (fun i a=>.inl (if(ts.getD i zT).2.2.2.1=true then a++[ed (ts.getD i zT)]else a)) (fun a=>.inl (a,())) (fun i a=>a.length<=i) (by simp;omega)
  (fun i x a hi f l=>by
   refine⟨fun m c => ?_,fun r c=>(by cases c)⟩
   cases c
   have:=DB f
   subst this
   rw[ASP]at hi
   have d:=(h x (by simp[hi])).2.2.2.1
   constructor
   ·rw[FE,A6,A2,AR9 hi]
    simp only[Dr zT hi,A6]
    have b:fits ((a.length:Int)+(([((ts.getD x zT).1,(ts.getD x zT).2.1,())]:List Edge).length:Int))=true:=CC (by simp;omega)
    rw[A5 (by omega),BM,AR9 d]
    cases g:(ts.getD x zT).2.2.2.1
    ·simp
    ·simp only[b]
     simp[ed,B6]
   ·split
    ·rw[ASN];simp;omega
    ·omega)
  (fun a _=>by rw[FE,ASP,A6,A2,AR8 (by omega)]) [] (ASG _)
 have j:A9 FE many ((0:Int),[],ts,A4 ts,(0:Int),())=_:=e;simp only[j];rw[B2 (fun i a=>if(ts.getD i zT).2.2.2.1=true then a++[ed (ts.getD i zT)]else a)];rfl
def cnt(out:List Int)(N:Nat):Nat:=((List.range N).filter fun k=>decide (out.getD k 0=(k:Int))).length
theorem n7{N:Nat}{c:List (List Int)}{l:List Edge}{out:List Int}(h:FC (N:Int) c l)(f:KF (N:Int) l out):c.length=cnt out N:=by
 have d:=h.fr.sz;have m:(c.map hd).Perm (((List.range N).filter fun k=>decide (out.getD k 0=(k:Int))).map fun(k:Nat)=>(k:Int)):=by
  rw[AT3];intro a;simp only[ASS,ASa,ASb,ASC];constructor;rintro⟨A,e,rfl⟩;have g:=h.fr.rg A e;have i:In (N:Int) (hd A):=TW g;have n:=kO g.2.1;have:=au h f e i n;obtain⟨_,_,q,r⟩:=i;refine⟨(hd A).toNat,⟨by omega,?_⟩,by omega⟩;rw[show out.getD (hd A).toNat 0=cl out (hd A)from rfl,<- this];omega;rintro⟨k,⟨s,o⟩,rfl⟩;have j:In (N:Int) (k:Int):=⟨d.1,d.2,by omega,by omega⟩
  obtain⟨A,e,p⟩:=h.fr.cov _ j;refine⟨A,e,?_⟩;rw[au h f e j p];unfold cl;rw[ASv];exact o;exact(ATd.2 h.fr.up).imp (fun h=>by omega);refine List.Pairwise.map _ (S:=fun a b=>a≠b) (R:=fun a b=>a≠b) (fun a b h t=>h (by omega)) ?_;exact(ATY).filter _
 have:=m.length_eq;rw[ASZ,ASZ]at this;exact this
theorem Ps(N:Nat)(j:N<=64)(p:List Tie)(q:List Edge)(out:List Int)(l:out.length=N):A9 G6 many ((N:Int),p,q,out,(0:Int),(0:Int),())=some (.inl ((N:Int),p,q,(cnt out N:Int),())):=by
 have e:=DL (step:=G6) (fun i (a:Nat)=>((N:Int),p,q,out,(a:Int),(i:Int),())) (List.range N) (fun k a=>.inl (if out.getD k 0=(k:Int)then a+1 else a)) (fun a=>.inl ((N:Int),p,q,(a:Int),())) (fun i a=>a<=i) (by simp;omega)
  (fun i x a hi d m=>by
   refine⟨fun n b => ?_,fun r b=>(by cases b)⟩
   cases b
   have:=DB d
   subst this
   rw[ASP]at hi
   constructor
   ·rw[G6,A2,AR9 hi]
    simp only[Dr 0 (show x<out.length by omega),Gk,BB]
    rw[A5 (by omega),A5 (by omega)]
    by_cases h:out.getD x 0=(x:Int)
    ·rw[AR9 h,ASL h]
    ·rw[AR8 h,ASH h]
   ·split<;>omega)
  (fun a _=>by rw[G6,ASP,A2,AR8 (by omega)]) 0 (ASG _)
 have f:A9 G6 many ((N:Int),p,q,out,(0:Int),(0:Int),())=_:=e;rw[f,B2 (fun k a=>if out.getD k 0=(k:Int)then a+1 else a)];have c:∀ (xs:List Nat) (a:Nat),xs.foldl (fun a k=>if out.getD k 0=(k:Int)then a+1 else a) a=a+(xs.filter fun k=>decide (out.getD k 0=(k:Int))).length:=by
  intro xs;induction xs with
   |nil=>intro a;rfl
   |cons x xs g=>
    intro a;rw[AS2,g,ATJ];by_cases h:out.getD x 0=(x:Int)
    simp only[h,ASh,ASU,ASK];omega;simp only[h,ASX,ASo,ASR]
 rw[c,ATE];rfl
theorem RR(n:Int)(ts:List Tie)(r:ts.length<4611686018427387904):∃ b:Bool,GS ((n,(ts,())),())=some (b,())/\Cu ((n,(ts,())),())=some (b,())/\(b=true->∃ N:Nat,n=(N:Int)/\1<=N/\N<=64/\ts.length<=400/\oks N ts):=by
 by_cases e:¬ (1<=n/\n<=64);refine⟨false,?_,?_,fun h=>by cases h⟩;rw[G7,G8,BC,BC];by_cases h:n<1;simp only[AR9 h];simp only[AR8 h,AR9 (show 64<n by omega)];rw[LQ,LR];simp only[UW,SW,BM];by_cases h:1<=n;simp only[AR9 h,AR8 (show ¬ n<=64 by omega),ASf];simp only[AR8 h,ASf];have e:=AUO.1 e;obtain⟨N,rfl⟩:=ASD (show 0<=n by omega);have c:aH ((N:Int),())=some (true,()):=by simp only[UW,SW,BM,AR9 e.1,AR9 e.2]
 by_cases f:¬ ts.length<=400;refine⟨false,?_,?_,fun h=>by cases h⟩;rw[G7,G8];simp only[BC,A6];rw[AR8 (show ¬ (N:Int)<1 by omega),AR8 (show ¬ 64<(N:Int) by omega),AR9 (show 400<(ts.length:Int) by omega)];rw[LQ,LR];simp only[c,ASE,BC,A6];rw[AR9 (show 400<(ts.length:Int) by omega)];have f:=AUO.1 f;have R:=R7 N (by omega) ts f;have L:=pn N (by omega) ts f;by_cases d:¬ oks N ts;rw[ASH d]at R L;refine⟨false,?_,?_,fun h=>by cases h⟩;rw[G7,G8];simp only[BC,A6];rw[AR8 (show ¬ (N:Int)<1 by omega),AR8 (show ¬ 64<(N:Int) by omega),AR8 (show ¬ 400<(ts.length:Int) by omega)];simp only[R];rw[LQ,LR];simp only[c,ASE,BC,A6,SV N (by omega)];rw[AR8 (show ¬ 400<(ts.length:Int) by omega)];rw[A6]at L;simp only[L];have d:=AUO.1 d;rw[ASL d]at R L;have g:=Yl (show N<=64 by omega) d;have o:=Rl ts ts.length;obtain⟨out,p,i⟩:=D3 (N:Int) (trs ts ts.length) e (by omega) g;rcases(ki (N:Int) (trs ts ts.length) e (by omega)).symm with⟨j,_⟩|⟨_,k,q,l⟩
 exact absurd g j;have a:=n7 l i;have m:out.length=N:=by have:=i.len;omega
 refine⟨decide ((cnt out N:Int)=(N:Int)-(trs ts ts.length).length),?_,?_,fun _=>⟨N,rfl,by omega,by omega,f,d⟩⟩;rw[G7,G8];simp only[BC,A6];rw[AR8 (show ¬ (N:Int)<1 by omega),AR8 (show ¬ 64<(N:Int) by omega),AR8 (show ¬ 400<(ts.length:Int) by omega)];simp only[R,p,Ps N (by omega) _ _ out m,BB];rw[BG (by omega)];rw[LQ,LR];simp only[c,ASE,BC,A6,SV N (by omega)];rw[AR8 (show ¬ 400<(ts.length:Int) by omega)];rw[A6]at L;simp only[L,aG ts f d,q,Dh,BB,a];rw[BG (by omega)]
end Go.Pev.Pl
end
section
namespace Go.Pev.Pl
theorem KF.unique{N:Nat}{l:List Edge}{a b:List Int}(h:1<=N)(i:N<=64)(d:KF (N:Int) l a)(e:KF (N:Int) l b):a=b:=by
 have j:=d.len;have lb:=e.len;refine S2 (0:Int) (by omega) fun k m => ?_;have c:In (N:Int) (k:Int):=⟨by omega,by omega,by omega,by omega⟩
 have f:=d.least _ _ c (e.isin _ c) (e.con _ c);have g:=e.least _ _ c (d.isin _ c) (d.con _ c);unfold cl at f g;rw[ASv]at f g;omega
theorem fw(xs:List Tie)(a:List Edge):xs.foldl (fun a x=>a++[ed x]) a=a++xs.map ed:=fy ed xs a
theorem Qq(n:Int)(ts:List Tie)(f:ts.length<=400)(h:Cu ((n,(ts,())),())=some (true,())):UZ ((n,(ts,())),())=some (ts.map ed,()):=by
 rw[fa,aM];simp only[h,ASE]
 have e:=DL (step:=LU) (fun i (a:List Edge)=>(a,ts,A4 ts,(i:Int),())) ts (fun x a=>.inl (a++[ed x])) (fun a=>.inl (a,())) (fun i a=>a.length<=i) (by omega)
  (fun i x a hi c g=>by
   refine⟨fun j b => ?_,fun r b=>(by cases b)⟩
   cases b
   constructor
   ·rw[LU]
    simp only[A6]
    rw[A2,AR9 hi]
    simp only[A' c]
    rw[CC (by simp;omega),A5 (by omega)]
    rfl
   ·rw[ASN];simp;omega)
  (fun a _=>by rw[LU,A6,A2,AR8 (by omega)]) [] (ASG _)
 have d:A9 LU many ([],ts,A4 ts,(0:Int),())=_:=e;simp only[d];rw[B2 (fun x a=>a++[ed x]),fw];rfl
theorem qe(n:Int)(ts:List Tie)(f:ts.length<=400)(h:GS ((n,(ts,())),())=some (true,())):YH ((n,(ts,())),())=some (ts.map ed,()):=by
 rw[bN,VV];simp only[h,ASE]
 have e:=DL (step:=Js) (fun i (a:List Edge)=>(n,ts,a,(i:Int),())) ts (fun x a=>.inl (a++[ed x])) (fun a=>.inl (a,())) (fun i a=>a.length<=i) (by omega)
  (fun i x a hi c g=>by
   refine⟨fun j b => ?_,fun r b=>(by cases b)⟩
   cases b
   constructor
   ·rw[Js]
    simp only[A6]
    rw[A2,AR9 hi]
    simp only[A' c]
    rw[CC (by simp;omega),A5 (by omega)]
    rfl
   ·rw[ASN];simp;omega)
  (fun a _=>by rw[Js,A6,A2,AR8 (by omega)]) [] (ASG _)
 have d:A9 Js many (n,ts,[],(0:Int),())=_:=e;simp only[d];rw[B2 (fun x a=>a++[ed x]),fw];rfl
abbrev Ask:=Int×Int×Int×Unit
def InV(N:Nat)(x:Int):Prop:=0<=x/\x<(N:Int)
instance (N:Nat)(x:Int):Decidable (InV N x):=inferInstanceAs (Decidable (_/\_))
def ARi(out:List Int)(N:Nat)(c:Int):Nat:=((List.range N).filter fun k=>decide (out.getD k 0=c)).length
def ans(N:Nat)(out:List Int)(a:Ask):Int×Int×Unit:=
 if a.1=1 then(if InV N a.2.1/\InV N a.2.2.1 then(if cl out a.2.1=cl out a.2.2.1 then 1 else 0,0,())else(0,10,()))
 else if a.1=2 then(if InV N a.2.1 then(cl out a.2.1,0,())else(0,10,()))
 else if a.1=3 then(if InV N a.2.1 then((ARi out N (cl out a.2.1):Int),0,())else(0,10,()))
 else if a.1=4 then((cnt out N:Int),0,())else(0,1,())
theorem fx(P:Nat->Prop)[DecidablePred P]:∀ (xs:List Nat) (a:Nat),xs.foldl (fun a k=>if P k then a+1 else a) a=a+(xs.filter fun k=>decide (P k)).length:=by
 intro xs;induction xs with
  |nil=>intro a;rfl
  |cons x xs b=>intro a;rw[AS2,b,ATJ];by_cases h:P x;simp only[h,ASh,ASU,ASK];omega;simp only[h,ASX,ASo,ASR]
theorem WB{N:Nat}{out:List Int}(a:out.length=N){u:Int}(h:InV N u):idx out u=some (cl out u):=by obtain⟨U,rfl⟩:=ASD h.1;have:=h.2;rw[Dr 0 (by omega)];unfold cl;rw[ASv]
end Go.Pev.Pl
end
section
namespace Go.Pev.Pl
end Go.Pev.Pl
end
section
namespace Go.Pev.Pl
def Q6(l:List Edge)(u v:Int):Prop:=((u,(v,())):Edge)∈l\/((v,(u,())):Edge)∈l
instance (l:List Edge)(u v:Int):Decidable (Q6 l u v):=inferInstanceAs (Decidable (_\/_))
def n0(N:Nat)(l:List Edge)(u:Nat):List Edge:=((List.range (N-(u+1))).filter fun i=>decide (Q6 l (u:Int) ((u+1+i:Nat):Int))).map fun(i:Nat)=>((u:Int),((u+1+i:Nat):Int),())
def Dy(N:Nat)(l:List Edge):List Edge:=(List.range N).flatMap fun u=>n0 N l u
theorem kg{α β:Type}(P:β->Prop)[DecidablePred P](g:β->α):∀ (xs:List β) (a:List α),xs.foldl (fun a x=>if P x then a++[g x]else a) a=a++(xs.filter fun x=>decide (P x)).map g:=by
 intro xs;induction xs with
  |nil=>intro a;simp
  |cons x xs b=>intro a;rw[AS2,b,ATJ];by_cases h:P x;simp[h];simp[h]
theorem AG1(N:Nat)(a:N<=64)(l:List Edge)(u:Nat):(n0 N l u).length<=64:=by unfold n0;rw[ASZ];have:=ATR (fun i=>decide (Q6 l (u:Int) ((u+1+i:Nat):Int))) (List.range (N-(u+1)));rw[ASP]at this;omega
end Go.Pev.Pl
end
section
namespace Go.Pev.Pl
theorem Zo(N:Nat)(b:N<=64)(l:List Edge):(Dy N l).length<=4096:=by
 have a:∀ M,((List.range M).flatMap fun u=>n0 N l u).length<=64*M:=by
  intro M;induction M with
   |zero=>simp
   |succ M c=>rw[ASi,ATS,ASN];have:=AG1 N b l M;simp only[ATT,List.flatMap_nil,ATM];omega
 have:=a N;unfold Dy;omega
def Bo(N:Nat)(ts:List Tie)(l:List Edge):List Edge:=(Dy N l).filter fun x => !decide (x∈ts.map ed)
def Zh(l:List Tie)(t:Tie):List Tie:=l.take (l.findIdx fun x => !decide (ahead x t))++t::l.drop (l.findIdx fun x => !decide (ahead x t))
end Go.Pev.Pl
end
section
namespace Go.Pev.Pl
def valid(N:Nat)(t:Tie):Prop:=0<=t.1/\t.1<t.2.1/\t.2.1<(N:Int)/\0<=t.2.2.1/\t.2.2.1<=JG N
theorem ahead.trans{a b c:Tie}(h:ahead a b)(d:ahead b c):ahead a c:=by unfold ahead at *;omega
theorem MS(N:Nat)(ts:List Tie):oks N ts↔(∀ t∈ts,valid N t)/\ts.Pairwise ahead:=by
 constructor;intro h;have l:∀ i,i<ts.length->NL N ts i:=fun i hi=>h i (by simpa using hi);refine⟨fun t o => ?_,?_⟩;obtain⟨i,hi,rfl⟩:=AS5 o;obtain⟨a,b,c,f,g,_⟩:=l i hi;simp only[ASY,ASI hi,ATA]at a b c f g;exact⟨a,b,c,f,g⟩;have m:∀ (d i:Nat),i+d+1<ts.length->ahead (ts.getD i zT) (ts.getD (i+d+1) zT):=by
  intro d;induction d with
   |zero=>intro i hi;obtain⟨_,_,_,_,_,q⟩:=l (i+0+1) hi;rcases q with q|q;omega;simpa using q
   |succ d p=>intro i hi;have n:=p i (by omega);obtain⟨_,_,_,_,_,q⟩:=l (i+(d+1)+1) hi;rcases q with q|q;omega;rw[show i+(d+1)+1-1=i+d+1 by omega]at q;exact n.trans q
 rw[AS7];intro i j hi k r;have:=m (j-i-1) i (by omega);rw[show i+(j-i-1)+1=j by omega]at this;simpa only[ASY,ASI hi,ASI k,ATA]using this;rintro⟨n,s⟩ i hi;have hi:i<ts.length:=by simpa using hi
 have e:∀ j (k:j<ts.length),ts.getD j zT=ts[j]:=fun j k=>by simp only[ASY,ASI k,ATA]
 obtain⟨a,b,c,f,g⟩:=n ts[i] (ASu hi);unfold NL;rw[e i hi];refine⟨a,b,c,f,g,?_⟩;by_cases u:i=0;exact .inl u;right;rw[e (i-1) (by omega)];exact(AS7.1 s) (i-1) i (by omega) hi (by omega)
theorem fI(l:List Tie)(t:Tie):(Zh l t).Perm (t::l):=by unfold Zh;refine List.perm_middle.trans ?_;rw[AS8]
theorem ABY{l:List Tie}{t:Tie}(h:l.Pairwise ahead)(g:∀ x∈l,¬ (x.1=t.1/\x.2.1=t.2.1)):(Zh l t).Pairwise ahead:=by
 induction l with
  |nil=>simp[Zh]
  |cons a l i=>
   rw[AS3]at h;have j:=g a (by simp);have d:∀ x∈l,¬ (x.1=t.1/\x.2.1=t.2.1):=fun x b=>g x (by simp[b]);by_cases f:ahead a t;have e:Zh (a::l) t=a::Zh l t:=by unfold Zh;rw[AUk];simp[f]
   rw[e,AS3];refine⟨fun x b => ?_,i h.2 d⟩;rcases ASW.1 ((fI l t).mem_iff.1 b)with rfl|b;exact f;exact h.1 x b;have e:Zh (a::l) t=t::a::l:=by unfold Zh;rw[AUk];simp[f]
   have c:ahead t a:=by unfold ahead at *;omega
   rw[e,AS3,AS3];refine⟨fun x b => ?_,h.1,h.2⟩;rcases ASW.1 b with rfl|b;exact c;exact c.trans (h.1 x b)
end Go.Pev.Pl
end
section
namespace Go.Pev.Pl
theorem Fv(N:Nat)(l:List Edge)(x:Edge):x∈Dy N l↔0<=x.1/\x.1<x.2.1/\x.2.1<(N:Int)/\Q6 l x.1 x.2.1:=by unfold Dy n0;simp only[AT5,ASS,ASa,ASb,ASC];constructor;rintro⟨u,h,i,⟨hi,e⟩,rfl⟩;exact⟨by show(0:Int)<=(u:Int);omega,by show(u:Int)<((u+1+i:Nat):Int);omega,by show((u+1+i:Nat):Int)<(N:Int);omega,e⟩;obtain⟨a,b,⟨⟩⟩:=x;rintro⟨c,f,g,d⟩;simp only at c f g d;obtain⟨u,rfl⟩:=ASD c;obtain⟨v,rfl⟩:=ASD (show 0<=b by omega);refine⟨u,by omega,v-(u+1),⟨by omega,?_⟩,?_⟩;rw[show u+1+(v-(u+1))=v by omega];exact d;rw[show u+1+(v-(u+1))=v by omega]
def Cw(p x:Edge):Prop:=p.1<x.1\/(p.1=x.1/\p.2.1<x.2.1)
theorem Nv(N:Nat)(l:List Edge):(Dy N l).Pairwise Cw:=by unfold Dy;rw[List.pairwise_flatMap];refine⟨fun u _ => ?_,?_⟩;unfold n0;rw[ATd];refine AUD _ ?_;refine List.pairwise_lt_range.imp fun h => ?_;exact .inr ⟨rfl,by show((u+1+_:Nat):Int)<((u+1+_:Nat):Int);omega⟩;refine List.pairwise_lt_range.imp fun h x a y b => ?_;unfold n0 at a b;simp only[ASS]at a b;obtain⟨i,_,rfl⟩:=a;obtain⟨j,_,rfl⟩:=b;exact .inl (by simp only;omega)
theorem PG(N:Nat)(ts:List Tie)(l:List Edge)(x:Edge):x∈Bo N ts l↔(0<=x.1/\x.1<x.2.1/\x.2.1<(N:Int)/\Q6 l x.1 x.2.1)/\¬ x∈ts.map ed:=by unfold Bo;rw[ASa,Fv];simp
theorem M4(N:Nat)(ts:List Tie)(l:List Edge):(Bo N ts l).Pairwise Cw:=(Nv N l).filter _
end Go.Pev.Pl
end
section
namespace Go.Pev.Pl
open Tok
instance (n v:Int):Decidable (In n v):=inferInstanceAs (Decidable (_/\_))
instance (n:Int):Decidable (Sz n):=inferInstanceAs (Decidable (_/\_))
end Go.Pev.Pl
end
section
namespace Go.Pev.Pl
instance (xs:List Int):Decidable (Rt xs):=inferInstanceAs (Decidable (_/\_/\_))
end Go.Pev.Pl
end
section
namespace Go.Pev.Pl
open Tok
noncomputable instance (n:Int) (xs:List Int):Decidable (TI n xs):=Classical.propDecidable _
end Go.Pev.Pl
end
section
namespace Go.Pev.Pl
open Tok
end Go.Pev.Pl
end
section
namespace Go.Pev.Pl
open Tok
end Go.Pev.Pl
end
section
namespace Go.Pev.Pl
open Tok
noncomputable instance (n:Int) (rings:List (List Int)):Decidable (RF n rings):=Classical.propDecidable _
noncomputable instance (n:Int) (xs:List Int):Decidable (RG n xs):=Classical.propDecidable _
end Go.Pev.Pl
end
end
section
section
namespace Go.Pev.Pl
open Tok
end Go.Pev.Pl
end
section
namespace Go.Pev.Pl
open Tok
end Go.Pev.Pl
end
section
namespace Go.Pev.Pl
open Tok
end Go.Pev.Pl
end
section
namespace Go.Pev.Pl
open Tok
theorem xy(n:Int)(a:List (List Int))(v:Int)(b:Dom a):tof ((n,(a,())),v,())=some (if RF n a/\In n v then plc a v else -1,()):=by rw[AFr,AFs];simp only[Xr,L9 n a b.1 b.2,QI n a v b.1 (fun l d=>(b.2 l d).1)];by_cases c:In n v;by_cases e:RF n a<;>simp[c,e];simp[c]
end Go.Pev.Pl
end
section
namespace Go.Pev.Pl
open Go.RowKit Tok
end Go.Pev.Pl
end
section
namespace Go.Pev.Pl
open Tok
end Go.Pev.Pl
end
section
namespace Go.Pev.Pl
open Tok
end Go.Pev.Pl
end
section
namespace Go.Pev.Pl
open Tok
def sel(l:List Edge)(bs:List Bool):List Edge:=((l.zip bs).filter fun p=>p.2).map fun p=>p.1
end Go.Pev.Pl
end
section
namespace Go.Pev.Pl
open Tok
instance (n v:Int):Decidable (In n v):=inferInstanceAs (Decidable (_/\_))
instance (n:Int):Decidable (Sz n):=inferInstanceAs (Decidable (_/\_))
end Go.Pev.Pl
end
section
namespace Go.Pev.Pl
instance (xs:List Int):Decidable (Rt xs):=inferInstanceAs (Decidable (_/\_/\_))
end Go.Pev.Pl
end
section
namespace Go.Pev.Pl
open Tok
noncomputable instance (n:Int) (xs:List Int):Decidable (TI n xs):=Classical.propDecidable _
end Go.Pev.Pl
end
section
namespace Go.Pev.Pl
open Tok
noncomputable instance (n:Int) (rings:List (List Int)):Decidable (RF n rings):=Classical.propDecidable _
noncomputable instance (n:Int) (xs:List Int):Decidable (RG n xs):=Classical.propDecidable _
end Go.Pev.Pl
end
section
namespace Go.Pev.Pl
open Tok
end Go.Pev.Pl
end
section
namespace Go.Pev.Pl
open Tok
end Go.Pev.Pl
end
section
namespace Go.Pev.Pl
open Tok
end Go.Pev.Pl
end
section
namespace Go.Pev.Pl
open Tok
end Go.Pev.Pl
end
section
namespace Go.Pev.Pl
open Tok
theorem n8{N:Nat}(g:1<=N)(a:N<=64){ts:List Tie}(h:ts.length<=400)(d:oks N ts){out:List Int}(e:KF (N:Int) (trs ts ts.length) out):
  GS (((N:Int),(ts,())),())=some (decide ((cnt out N:Int)=(N:Int)-(trs ts ts.length).length),()):=by
 have R:=R7 N a ts h;rw[ASL d]at R;have b:=Yl a d;have f:=Rl ts ts.length;obtain⟨j,i,c2⟩:=D3 (N:Int) (trs ts ts.length) ⟨by omega,by omega⟩ (by omega) b;have:=KF.unique g a e c2;subst this;have c:out.length=N:=by have:=e.len;omega
 rw[G7,G8];simp only[BC,A6];rw[AR8 (show ¬ (N:Int)<1 by omega),AR8 (show ¬ 64<(N:Int) by omega),AR8 (show ¬ 400<(ts.length:Int) by omega)];simp only[R,i,Ps N a _ _ out c,BB];rw[BG (by omega)]
end Go.Pev.Pl
end
section
namespace Go.Pev.Pl
open Tok
theorem KF.congr{n:Int}{l g:List Edge}{out:List Int}(h:∀ a b,Con l a b↔Con g a b)(d:KF n l out):KF n g out:=
 ⟨d.len,fun a b e f=>(d.same a b e f).trans (h a b),d.isin,fun a e=>(h a _).1 (d.con a e),fun a b e f c=>d.least a b e f ((h a b).2 c)⟩
end Go.Pev.Pl
end
section
namespace Go.Pev.Pl
open Tok
def Nc(x:Edge)(b:Bool):Tie:=(x.1,x.2.1,0,b,())
def Xn(ts:List Tie)(xs:List Edge)(bs:List Bool)(k:Nat):List Tie:=(List.range k).foldl (fun a i=>Zh a (Nc (xs.getD i (0,0,())) (bs.getD i false))) ts
end Go.Pev.Pl
end
section
namespace Go.Pev.Pl
open Tok
def KB(xs:List Edge)(bs:List Bool)(k:Nat):List Tie:=(List.range k).map fun i=>Nc (xs.getD i (0,0,())) (bs.getD i false)
theorem gl(ts:List Tie)(xs:List Edge)(bs:List Bool)(k:Nat):Xn ts xs bs (k+1)=Zh (Xn ts xs bs k) (Nc (xs.getD k (0,0,())) (bs.getD k false)):=by unfold Xn;rw[ASi,ATN];rfl
theorem Pb(ts:List Tie)(xs:List Edge)(bs:List Bool):∀ k,(Xn ts xs bs k).Perm (ts++KB xs bs k):=by
 intro k;induction k with
  |zero=>simp[Xn,KB]
  |succ k a=>rw[gl];refine(fI _ _).trans ?_;unfold KB at *;rw[ASi,ASz,<- ATo];refine(List.Perm.cons _ a).trans ?_;exact(List.perm_append_singleton _ _).symm
end Go.Pev.Pl
end
section
namespace Go.Pev.Pl
open Tok
theorem ALN{N:Nat}{ts:List Tie}(h:oks N ts)(d:0<=JG N){xs:List Edge}(bs:List Bool)(l:xs.Pairwise Cw)(m:∀ e∈xs,0<=e.1/\e.1<e.2.1/\e.2.1<(N:Int))(n:∀ e∈xs,¬ e∈ts.map ed):oks N (Xn ts xs bs xs.length):=by
 rw[MS]at h |-;obtain⟨o,p⟩:=h;have a:∀ i (hi:i<xs.length),xs.getD i (0,0,())=xs[i]:=fun i hi=>by simp only[ASY,ASI hi,ATA]
 have b:∀ k,k<=xs.length->∀ t∈Xn ts xs bs k,t∈ts\/∃ i,i<k/\t=Nc (xs.getD i (0,0,())) (bs.getD i false):=by intro k q t c;rcases ASF.1 ((Pb ts xs bs k).mem_iff.1 c)with h|h;exact .inl h;unfold KB at h;obtain⟨i,hi,rfl⟩:=ASS.1 h;exact .inr ⟨i,by simpa using hi,rfl⟩
 refine⟨fun t c => ?_,?_⟩;rcases b _ (ASG _) t c with h|⟨i,hi,rfl⟩
 exact o t h;rw[a i hi];obtain⟨r,s,u⟩:=m xs[i] (ASu hi);exact⟨r,s,u,by show(0:Int)<=0;omega,d⟩;have f:∀ k,k<=xs.length->(Xn ts xs bs k).Pairwise ahead:=by
  intro k;induction k with
   |zero=>intro _;exact p
   |succ k v=>
    intro q;rw[gl];refine ABY (v (by omega)) fun t c => ?_;rw[a k (by omega)];rintro⟨g,j⟩;rcases b k (by omega) t c with h|⟨i,hi,rfl⟩
    refine n xs[k] (ASu (by omega)) (ASS.2 ⟨t,h,?_⟩);unfold ed;rw[g,j];rfl;rw[a i (by omega)]at g j;have:=(AS7.1 l) i k (by omega) (by omega) hi;unfold Cw at this;simp only[Nc]at g j;omega
 exact f _ (ASG _)
end Go.Pev.Pl
end
section
namespace Go.Pev.Pl
open Tok
theorem AFj(ts:List Tie):∀ k,k<=ts.length->trs ts k=((ts.take k).filter fun t=>t.2.2.2.1).map ed:=by
 intro k;induction k with
  |zero=>intro _;simp[trs]
  |succ k b=>
   intro c;have a:k<ts.length:=by omega
   rw[Yk,b (by omega),ATF a,ATP,ASz];simp only[ASY,ASI a,ATA];cases h:ts[k].2.2.2.1;simp[h];simp[h]
theorem iL(ts:List Tie):trs ts ts.length=(ts.filter fun t=>t.2.2.2.1).map ed:=by rw[AFj ts _ (ASG _),ASc]
end Go.Pev.Pl
end
section
namespace Go.Pev.Pl
open Tok
theorem AIa{xs:List Edge}{bs:List Bool}(h:bs.length=xs.length):KB xs bs xs.length=(xs.zip bs).map fun p=>Nc p.1 p.2:=by
 unfold KB;apply AUV;simp[h];intro i a b;have hi:i<xs.length:=by simpa using a
 simp[hi,show i<bs.length by omega]
theorem APk(x:Edge)(b:Bool):ed (Nc x b)=x:=rfl
theorem ALM(ts:List Tie){xs:List Edge}{bs:List Bool}(h:bs.length=xs.length):(trs (Xn ts xs bs xs.length) (Xn ts xs bs xs.length).length).Perm (trs ts ts.length++sel xs bs):=by rw[iL,iL];refine(((Pb ts xs bs xs.length).filter _).map ed).trans ?_;rw[ATP,ASz,AIa h,List.filter_map,List.map_map];exact List.Perm.refl _
theorem ALO(ts:List Tie)(xs:List Edge)(bs:List Bool):∀ k,(Xn ts xs bs k).length=ts.length+k:=by intro k;rw[(Pb ts xs bs k).length_eq];simp[KB]
end Go.Pev.Pl
end
end
section
section
namespace Go.Pev.Pl
open Tok
def cU(N:Nat)(l:List Edge):Prop:=∀ e∈l,In (N:Int) e.1/\In (N:Int) e.2.1
theorem Vw(N:Nat)(a:N<=64)(ts:List Tie)(l:List Edge):(Bo N ts l).length<=4096:=by unfold Bo;exact ASs (ATR _ _) (Zo N a l)
theorem bw{N:Nat}(f:N<=64)(ts:List Tie)(l:List Edge):∀ e∈Bo N ts l,In (N:Int) e.1/\In (N:Int) e.2.1:=by intro e d;obtain⟨⟨a,b,c,_⟩,_⟩:=(PG N ts l e).1 d;exact⟨⟨by omega,by omega,a,by omega⟩,⟨by omega,by omega,by omega,c⟩⟩
end Go.Pev.Pl
end
section
namespace Go.Pev.Pl
open Tok
theorem fi{N:Nat}(b:1<=N)(c:N<=64){a:Int}(h:0<=a/\a<(N:Int)):In (N:Int) a:=⟨by omega,by omega,h.1,h.2⟩
theorem VG{N:Nat}{e:Edge}(h:In (N:Int) e.1/\In (N:Int) e.2.1):InE N e:=⟨⟨h.1.2.2.1,h.1.2.2.2⟩,⟨h.2.2.2.1,h.2.2.2.2⟩⟩
theorem AQu{N:Nat}(f:1<=N)(g:N<=64){l:List Edge}{out:List Int}(c:KF (N:Int) l out):cnt out N=cc N l:=by
 unfold cnt cc;rw[List.countP_eq_length_filter];congr 1;refine ATn fun k i => ?_;have i:k<N:=by simpa using i
 have b:=fi f g (a:=(k:Int)) ⟨by omega,by omega⟩;have o:out.getD k 0=cl out (k:Int):=by unfold cl;rw[ASv]
 rw[o,ATH,ASk,Jd];constructor;intro h j s d;have:=c.least (k:Int) (j:Int) b (fi f g ⟨by omega,by omega⟩) d.symm;omega;intro h;have p:=c.isin _ b;have n:=c.con _ b;have q:=c.least (k:Int) (k:Int) b b (.refl _);obtain⟨m,r⟩:=ASD p.2.2.1;rw[r]at n q |-;by_cases e:m<k;exact absurd n.symm (h m e);omega
theorem ZZ{N:Nat}(b:1<=N)(a:N<=64){ts:List Tie}(f:ts.length<=400)(d:oks N ts):GS (((N:Int),(ts,())),())=some (true,())↔Fo N (trs ts ts.length):=by
 have e:=Rl ts ts.length;obtain⟨o,_,c⟩:=D3 (N:Int) (trs ts ts.length) ⟨by omega,by omega⟩ (by omega) (Yl a d);rw[n8 b a f d c,AQu b a c];unfold Fo;constructor;intro h;have:decide ((cc N (trs ts ts.length):Int)=(N:Int)-(trs ts ts.length).length)=true:=by injection h with h;injection h
 have:=AUF this;omega;intro h;rw[AR9 (by omega)]
theorem AOI(f:Edge->Edge):∀ (l b b':List Edge),(∀ p x s,l=p++x::s->FV (b++p) x.1 x.2.1=FV (b'++p.map f) (f x).1 (f x).2.1)->gfl b l=gfl b' (l.map f):=by
 intro l;induction l with
  |nil=>intro b b' _;rfl
  |cons x l c=>intro b b' h;rw[gfl,ASQ,gfl];have a:=h [] x l rfl;simp only[ATM,ATk]at a;rw[a,c (b++[x]) (b'++[f x]) (fun p y s e=>by have:=h (x::p) y s (by rw[e];rfl);simpa using this)]
theorem tM{N:Nat}(d:N<=64){c:Int->Int}{s:List Int}(f:UF N s c){u v:Nat}(h:u<N)(i:v<N):∃ a,nV (s,(u:Int),(v:Int),())=some (a,!decide (c (u:Int)=c (v:Int)),())/\UF N a (fE c u v):=by obtain⟨a,b,e,g⟩:=ee d f h i;refine⟨a,?_,g⟩;rw[e];obtain⟨m,j,k,_⟩:=JN d f h;obtain⟨n,l,o,_⟩:=JN d k i;rw[Y_,Xu]at e;simp only[j,l,BB]at e;split at e;cases e;cases e;rfl
theorem k8{N:Nat}(K:1<=N)(C:N<=64)(l:List Edge)(L:l.length<1073741824)(q:∀ e∈l,In (N:Int) e.1/\In (N:Int) e.2.1):
  ∃ s,OT (l,(List.range N).map (fun(k:Nat)=>(k:Int)),())=some (s,gfl [] l,()):=by
 rw[OS,Mw]
 have r:∀ (m i n:Nat) (s:List Int) (c:Int->Int),l.length-i=m->i<=l.length->m<n->UF N s c->cW N c (l.take i) ->
   ∃ t,BD Dw n (s,gfl [] (l.take i),l,A4 l,(i:Int),())=some (.inl (t,gfl [] l,())):=by
  intro m
  induction m with
  |zero=>
   intro i n s c D hi E z w
   obtain⟨n,rfl⟩:∃ k,n=k+1:=⟨n-1,by omega⟩
   have e:i=l.length:=by omega
   subst e
   rw[BD,Dw,A6,A2,AR8 (by omega),ASc]
   exact⟨s,rfl⟩
  |succ m F=>
   intro i n s c D hi E z w
   obtain⟨n,rfl⟩:∃ k,n=k+1:=⟨n-1,by omega⟩
   have d:i<l.length:=by omega
   have G:l[i]? = some l[i]:=by simp[d]
   obtain⟨A,B⟩:=q l[i] (ASu d)
   have o:=w l[i].1 l[i].2.1 A B
   obtain⟨_,_,H,M⟩:=A
   obtain⟨_,_,I,O⟩:=B
   obtain⟨u,f⟩:=ASD H
   obtain⟨v,j⟩:=ASD I
   obtain⟨t,e,g⟩:=tM C z (u:=u) (v:=v) (by omega) (by omega)
   have x:(l.take i).length=i:=by rw[ASp];omega
   rw[BD,Dw,A6,A2,AR9 d]
   simp only[A' G,f,j,e,A6]
   rw[CC (by rw[kU,x];simp;omega),A5 (by omega)]
   have p:l.take (i+1)=l.take i++[l[i]]:=ATF d
   have y:B6 (gfl [] (l.take i)) [!decide (c (u:Int)=c (v:Int))]=gfl [] (l.take (i+1)):=by
    rw[p,AJX,Ej,AS1]
    congr 2
    rw[f,j]at o |-
    congr 1
    rw[ATH,ASk,CL]
    exact o
   rw[y]
   refine F (i+1) n t _ (by omega) (by omega) (by omega) g ?_
   rw[p]
   have:=w.snoc (e:=l[i]) (q l[i] (ASu d)).1 (q l[i] (ASu d)).2
   rw[f,j]at this
   exact this
 obtain⟨s,e⟩:=r l.length 0 many _ _ rfl (ATw _) (by simp only[many];omega) (r7 N) (by intro a b _ _;rw[AUl];exact⟨fun h=>by have h:a=b:=h;rw[h];exact .refl _,fun h=>h.nil⟩)
 have J:A9 Dw many ((List.range N).map (fun(k:Nat)=>(k:Int)),[],l,A4 l,(0:Int),())=_:=(BR _ _ _).trans e;rw[J];exact⟨s,rfl⟩
end Go.Pev.Pl
end
section
namespace Go.Pev.Pl
open Tok
theorem pq{N:Nat}(i:1<=N)(c:N<=64)(ts:List Tie)(d:ts.length<=400)(h:oks N ts)(f:Cu (((N:Int),(ts,())),())=some (true,())):
  ∃ a,PI (((N:Int),(ts,())),(0:Int),())=some (((N:Int),(a,())),0,())/\FC (N:Int) a (trs ts ts.length):=by
 have j:=Rl ts ts.length;rcases(ki (N:Int) (trs ts ts.length) ⟨by omega,by omega⟩ (by omega)).symm with⟨b,_⟩|⟨_,a,e,g⟩
 exact absurd (Yl c h) b;refine⟨a,?_,g⟩;rw[Qp,PH];simp only[f,ASE,aG ts d h,e]
end Go.Pev.Pl
end
section
namespace Go.Pev.Pl.SE
open Go.Sort
def ok(_:Int×Int×Unit):Prop:=True
def okz:Int×Int×Unit:=(0,0,())
theorem Qk:ok okz:=trivial
def lt(x y:Int×Int×Unit):Bool:=decide (x.1<y.1\/(x.1=y.1/\x.2.1<y.2.1))
theorem swo:SWO lt:=⟨fun x=>by simp[lt],fun x y z a b=>by simp only[lt,ASC]at *;omega,fun x y z a b=>by simp only[lt,ASg]at *;omega⟩
theorem Oa(a b:Int):Eb (a,b,())=some (if a<b then -1 else if b<a then 1 else 0,()):=by rw[IF,HU,KT,MT,KT,MT];simp only[Cd,BC];by_cases h:a<b;simp[h];by_cases c:b<a;simp[h,c];simp[h,c]
theorem or_val(a b:Int):orI ([a,b],())=some (if a=0 then b else a,()):=by
 obtain⟨m,l⟩:∃ m,many=m+3:=⟨many-3,by simp only[many]⟩
 rw[jl,pW,BR,l];have c:idx [a,b] (0:Int)=some a:=by rw[idx_eq];rfl
 have d:idx [a,b] (1:Int)=some b:=by rw[idx_eq];rfl
 have e:A4 [a,b]=(2:Int):=rfl;have f:w64 ((0:Int)+1)=1:=by rw[BG (by omega)];rfl
 have g:w64 ((1:Int)+1)=2:=by rw[BG (by omega)];rfl
 have h:ilt (0:Int) 2=true:=by rw[BC];rfl
 have i:ilt (1:Int) 2=true:=by rw[BC];rfl
 have c2:ilt (2:Int) 2=false:=by rw[BC];rfl
 by_cases j:a=0;subst j;by_cases k:b=0;subst k;have z:ieq (0:Int) 0=true:=by rw[Cd];rfl
 simp only[BD,JZ,e,c,d,f,g,h,i,c2,z,ASE,ASh];have:ieq b 0=false:=by rw[Cd];simpa using k
 have z:ieq (0:Int) 0=true:=by rw[Cd];rfl
 simp only[BD,JZ,e,c,d,f,g,h,i,c2,z,this,ASE,ASf,ASh];have:ieq a 0=false:=by rw[Cd];simpa using j
 simp only[BD,JZ,e,c,d,f,g,h,i,c2,this,j,ASf,ASX]
end Go.Pev.Pl.SE
end
section
namespace Go.Pev.Pl.ST
open Go.Sort
def ok(_:Int×Int×Int×Bool×Unit):Prop:=True
def okz:Int×Int×Int×Bool×Unit:=(0,0,0,false,())
theorem Qk:ok okz:=trivial
def lt(x y:Int×Int×Int×Bool×Unit):Bool:=decide (x.1<y.1\/(x.1=y.1/\x.2.1<y.2.1))
theorem swo:SWO lt:=⟨fun x=>by simp[lt],fun x y z a b=>by simp only[lt,ASC]at *;omega,fun x y z a b=>by simp only[lt,ASg]at *;omega⟩
theorem Oa(a b:Int):Eb (a,b,())=some (if a<b then -1 else if b<a then 1 else 0,()):=by rw[IF,HU,KT,MT,KT,MT];simp only[Cd,BC];by_cases h:a<b;simp[h];by_cases c:b<a;simp[h,c];simp[h,c]
theorem or_val(a b:Int):orI ([a,b],())=some (if a=0 then b else a,()):=by
 obtain⟨m,l⟩:∃ m,many=m+3:=⟨many-3,by simp only[many]⟩
 rw[jl,pW,BR,l];have c:idx [a,b] (0:Int)=some a:=by rw[idx_eq];rfl
 have d:idx [a,b] (1:Int)=some b:=by rw[idx_eq];rfl
 have e:A4 [a,b]=(2:Int):=rfl;have f:w64 ((0:Int)+1)=1:=by rw[BG (by omega)];rfl
 have g:w64 ((1:Int)+1)=2:=by rw[BG (by omega)];rfl
 have h:ilt (0:Int) 2=true:=by rw[BC];rfl
 have i:ilt (1:Int) 2=true:=by rw[BC];rfl
 have c2:ilt (2:Int) 2=false:=by rw[BC];rfl
 by_cases j:a=0;subst j;by_cases k:b=0;subst k;have z:ieq (0:Int) 0=true:=by rw[Cd];rfl
 simp only[BD,JZ,e,c,d,f,g,h,i,c2,z,ASE,ASh];have:ieq b 0=false:=by rw[Cd];simpa using k
 have z:ieq (0:Int) 0=true:=by rw[Cd];rfl
 simp only[BD,JZ,e,c,d,f,g,h,i,c2,z,this,ASE,ASf,ASh];have:ieq a 0=false:=by rw[Cd];simpa using j
 simp only[BD,JZ,e,c,d,f,g,h,i,c2,this,j,ASf,ASX]
end Go.Pev.Pl.ST
end
section
namespace Go.Pev.Pl
open Tok
section
variable {α β:Type} [DecidableEq α]
theorem Pw(d:List (α×β))(k:α)(v:β)(j:α):A7 (BF d k v) j=if j=k then some v else A7 d j:=by
 induction d with
  |nil=>simp only[BF,A7];by_cases h:k=j;simp[h];simp[h,ATy h]
  |cons e d f=>obtain⟨a,b⟩:=e;simp only[BF];by_cases h:a=k;subst h;simp only[ASh,A7];by_cases c:a=j;simp[c];simp[c,ATy c];simp only[h,ASX,A7,f];by_cases c:a=j;subst c;simp[h];simp[c]
end
def nrm(x:Edge):Edge:=(min x.1 x.2.1,max x.1 x.2.1,())
def XU(n:Int)(x:Edge)(a:List (Edge×Int)×List Edge):(List (Edge×Int)×List Edge)⊕((Int×Unit)⊕(List Edge×Unit)⊕Unit):=
 if(nrm x).1<0\/n<=(nrm x).2.1 then .inr (.inl (10,()))else
 if(nrm x).1<(nrm x).2.1/\(A7 a.1 (nrm x)).getD 0=0 then .inl (BF a.1 (nrm x) 1,a.2++[nrm x])else .inl a
theorem ACc(n:Int)(g:List Edge):∀ (l:List Edge) (m:List (Edge×Int)) (c:List Edge),(∀ x∈l,0<=(nrm x).1/\(nrm x).2.1<n)->c.Nodup->(∀ k,(A7 m k).getD 0=if k∈g\/k∈c then 1 else 0) ->
  ∃ ys,walk (XU n) (fun a=>(.inr (.inl (a.2,())):(Int×Unit)⊕(List Edge×Unit)⊕Unit)) l (m,c) = .inr (.inl (ys,()))/\ys.Nodup/\(∀ k,k∈ys↔k∈c\/(k∉g/\k.1<k.2.1/\∃ x∈l,nrm x=k))/\ys.length<=c.length+l.length:=by
 intro l;induction l with
  |nil=>intro m c _ v _;exact⟨c,rfl,v,fun k=>by simp,by simp⟩
  |cons x l C=>
   intro m c f v w;obtain⟨F,G⟩:=f x (by simp);rw[walk];have q:XU n x (m,c)=if(nrm x).1<(nrm x).2.1/\(A7 m (nrm x)).getD 0=0 then .inl (BF m (nrm x) 1,c++[nrm x])else .inl (m,c):=by unfold XU;rw[ASH (by omega)]
   by_cases r:(nrm x).1<(nrm x).2.1/\(A7 m (nrm x)).getD 0=0;rw[q,ASL r];have s:=w (nrm x);rw[r.2]at s;have t:¬ (nrm x∈g\/nrm x∈c):=fun h=>by rw[ASL h]at s;omega
   obtain⟨ys,e,z,A,B⟩:=C (BF m (nrm x) 1) (c++[nrm x]) (fun y d=>f y (by simp[d]))
    (by
     rw[AU7]
     exact⟨v,by simp,fun a E b D=>by rintro rfl;simp at D;exact t (.inr (D▸E))⟩)
    (fun k=>by
     rw[Pw]
     by_cases p:k=nrm x
     ·subst p;simp
     ·rw[ASH p,w]
      simp[p])
   refine⟨ys,e,z,fun k => ?_,by rw[ASN]at B;simp at B |-;omega⟩;rw[A];constructor;rintro (h|h);rcases ASF.1 h with h|h;exact .inl h;rw[ASj]at h;subst h;exact .inr ⟨fun h=>t (.inl h),r.1,x,by simp,rfl⟩;obtain⟨j,o,y,d,i⟩:=h;exact .inr ⟨j,o,y,by simp[d],i⟩;rintro (h|⟨j,o,y,d,i⟩);exact .inl (by simp[h]);rcases ASW.1 d with rfl|d;exact .inl (by simp[i]);exact .inr ⟨j,o,y,d,i⟩;rw[q,ASH r];obtain⟨ys,e,z,A,B⟩:=C m c (fun y d=>f y (by simp[d])) v w;refine⟨ys,e,z,fun k => ?_,by simp;omega⟩;rw[A];constructor;rintro (h|⟨j,o,y,d,i⟩);exact .inl h;exact .inr ⟨j,o,y,by simp[d],i⟩;rintro (h|⟨j,o,y,d,i⟩);exact .inl h;rcases ASW.1 d with rfl|d;subst i;have s:=w (nrm y);by_cases u:nrm y∈g\/nrm y∈c;rcases u with h|h;exact absurd h j;exact .inl h;rw[ASH u]at s;exact absurd ⟨o,s⟩ r;exact .inr ⟨j,o,y,d,i⟩
theorem jq(n:Int):∀ (l:List Edge) (a:List (Edge×Int)×List Edge),¬ (∀ x∈l,0<=(nrm x).1/\(nrm x).2.1<n) ->
  walk (XU n) (fun a=>(.inr (.inl (a.2,())):(Int×Unit)⊕(List Edge×Unit)⊕Unit)) l a = .inl (10,()):=by
 intro l;induction l with
  |nil=>intro a h;exact absurd (by simp) h
  |cons x l f=>
   intro a h;rw[walk];by_cases e:(nrm x).1<0\/n<=(nrm x).2.1;unfold XU;rw[ASL e];have b:¬ (∀ x∈l,0<=(nrm x).1/\(nrm x).2.1<n):=fun b=>h fun y c=>by rcases ASW.1 c with rfl|c;exact⟨by omega,by omega⟩;exact b y c
   have d:XU n x a = .inl (if(nrm x).1<(nrm x).2.1/\(A7 a.1 (nrm x)).getD 0=0 then(BF a.1 (nrm x) 1,a.2++[nrm x])else a):=by unfold XU;rw[ASH e];split<;>rfl
   rw[d];exact f _ b
theorem tL{xs ys c:List Edge}(g:ys.Perm xs)(i:ys.Pairwise (fun x y=>SE.lt y x=false))(j:c.Pairwise Cw)(d:xs.Perm c):ys=c:=by
 refine ATg (le:=fun x y=>SE.lt y x=false) ?_ i ?_ (g.trans d);intro a b _ _ e f;simp only[SE.lt,ASg]at e f;obtain⟨k,l,⟨⟩⟩:=a;obtain⟨m,n,⟨⟩⟩:=b;simp only at e f;have o:k=m:=by omega
 have p:l=n:=by omega
 rw[o,p];refine j.imp fun h => ?_;unfold Cw at h;simp only[SE.lt,ASg];omega
end Go.Pev.Pl
end
section
namespace Go.Pev.Pl
open Tok
theorem AMM:∀ (xs b:List Edge),sel xs (gfl b xs)=Ph b xs:=by
 intro xs;induction xs with
  |nil=>intro b;rfl
  |cons x xs a=>intro b;have:=a (b++[x]);unfold sel at *;rw[gfl,Ph,List.zip_cons_cons,ATJ];by_cases h:FV b x.1 x.2.1=true;simp[h,this];simp[h,this]
theorem APB{N:Nat}{b xs:List Edge}(h:Fo N b)(d:∀ e∈xs,InE N e):Fo N (b++Ph b xs):=by have f:=WC xs b d;have g:cc N (b++xs)=cc N (b++Ph b xs):=cD fun a c=>bu xs b;unfold Fo at *;rw[ASN];omega
theorem NV{N:Nat}(a:N<=64):0<=JG N:=by
 have:((List.range 65).all fun k=>decide (0<=JG k))=true:=by kernel_rfl
 exact AUF (ASd.1 this N (by simp;omega))
noncomputable def grown(N:Nat)(ts:List Tie)(l:List Edge):List Tie:=Xn ts (Bo N ts l) (gfl (trs ts ts.length) (Bo N ts l)) (Bo N ts l).length
theorem ADZ(N:Nat)(ts:List Tie)(l:List Edge):(grown N ts l).length=ts.length+(Bo N ts l).length:=ALO ..
theorem Q8(N:Nat)(ts:List Tie)(l:List Edge):(grown N ts l).Perm (ts++KB (Bo N ts l) (gfl (trs ts ts.length) (Bo N ts l)) (Bo N ts l).length):=Pb ..
theorem fm(N:Nat)(ts:List Tie)(l:List Edge):(trs (grown N ts l) (grown N ts l).length).Perm (trs ts ts.length++Ph (trs ts ts.length) (Bo N ts l)):=by have:=ALM ts (xs:=Bo N ts l) (bs:=gfl (trs ts ts.length) (Bo N ts l)) (kU _ _);rw[AMM]at this;exact this
theorem VM{N:Nat}(f:N<=64){ts:List Tie}(g:oks N ts)(l:List Edge):oks N (grown N ts l):=
 ALN g (NV f) _ (M4 N ts l) (fun e d=>by obtain⟨⟨a,b,c,_⟩,_⟩:=(PG N ts l e).1 d;exact⟨a,b,c⟩) (fun e d=>((PG N ts l e).1 d).2)
theorem gU{N:Nat}(a:N<=64)(ts:List Tie)(l:List Edge):∀ e∈Bo N ts l,InE N e:=fun e b=>VG (bw a ts l e b)
theorem AJS{N:Nat}(a:N<=64){ts:List Tie}(h:Fo N (trs ts ts.length))(l:List Edge):Fo N (trs (grown N ts l) (grown N ts l).length):=
 (APB h (gU a ts l)).perm (fm N ts l).symm
structure RG2(N:Nat)(ts:List Tie):Prop where
 h1:1<=N
 hN:N<=64
 ht:ts.length<=400
 oks:oks N ts
 fo:Fo N (trs ts ts.length)
theorem RG2.r21{N:Nat}{ts:List Tie}(h:RG2 N ts):GS (((N:Int),(ts,())),())=some (true,()):=(ZZ h.h1 h.hN h.ht h.oks).2 h.fo
theorem RG2.lr{N:Nat}{ts:List Tie}(h:RG2 N ts):Cu (((N:Int),(ts,())),())=some (true,()):=by obtain⟨b,a,c,_⟩:=RR (N:Int) ts (by have:=h.ht;omega);rw[h.r21]at a;cases a;exact c
theorem UC(n:Int)(ts:List Tie)(g:ts.length<4611686018427387904):(GS ((n,(ts,())),())=some (false,())/\Cu ((n,(ts,())),())=some (false,()))\/∃ N:Nat,n=(N:Int)/\RG2 N ts:=by obtain⟨b,a,h,i⟩:=RR n ts g;cases b;exact .inl ⟨a,h⟩;obtain⟨N,rfl,c,d,e,f⟩:=i rfl;exact .inr ⟨N,rfl,c,d,e,f,(ZZ c d e f).1 a⟩
theorem RG2.inE{N:Nat}{ts:List Tie}(h:RG2 N ts):∀ e∈ts.map ed,In (N:Int) e.1/\In (N:Int) e.2.1:=AQq h.hN h.oks
theorem RG2.inT{N:Nat}{ts:List Tie}(h:RG2 N ts):∀ e∈trs ts ts.length,In (N:Int) e.1/\In (N:Int) e.2.1:=Yl h.hN h.oks
theorem RG2.ARr{N:Nat}{ts:List Tie}(h:RG2 N ts):(trs ts ts.length).length<=400:=by have:=Rl ts ts.length;have:=h.ht;omega
theorem RG2.grown{N:Nat}{ts:List Tie}(h:RG2 N ts){l:List Edge}(a:ts.length+(Bo N ts l).length<=400):RG2 N (grown N ts l):=
 ⟨h.h1,h.hN,by rw[ADZ];exact a,VM h.hN h.oks l,AJS h.hN h.fo l⟩
theorem tK{N:Nat}{xs ys c:List Tie}(m:ys.Perm xs)(o:ys.Pairwise (fun x y=>ST.lt y x=false))(d:c.Pairwise ahead)(e:xs.Perm c):ys=c:=by
 have f:∀ a∈c,∀ b∈c,a.1=b.1->a.2.1=b.2.1->a=b:=by intro a g b k r s;refine ATI fun l => ?_;obtain⟨i,hi,rfl⟩:=AS5 g;obtain⟨j,n,rfl⟩:=AS5 k;rw[AS7]at d;unfold ahead at d;rcases AUi i j with h|h|h;have:=d i j hi n h;omega;subst h;exact l rfl;have:=d j i n hi h;omega
 refine ATg (le:=fun x y=>ST.lt y x=false) ?_ o ?_ (m.trans e);intro a b g k p q;simp only[ST.lt,ASg]at p q;exact f a ((m.trans e).mem_iff.1 g) b k (by omega) (by omega);refine d.imp fun h => ?_;unfold ahead at h;simp only[ST.lt,ASg];omega
theorem ACb(xs:List Edge)(bs:List Bool)(k:Nat):KB xs bs (k+1)=KB xs bs k++[Nc (xs.getD k (0,0,())) (bs.getD k false)]:=by unfold KB;rw[ASi,ASz];rfl
end Go.Pev.Pl
end
section
namespace Go.Pev.Pl
open Tok
def Db(u v:Int)(t:Tie):Bool:=decide (t.1=min u v/\t.2.1=max u v)
theorem sg(x:Tie):(ieq x.1 x.1&&(ieq x.2.1 x.2.1&&(ieq x.2.2.1 x.2.2.1&&((x.2.2.2.1==x.2.2.2.1)&&true))))=true:=by simp only[Dh];simp
theorem nr(n:Int)(ts:List Tie)(c:ts.length<1073741824):jC ((n,(ts,())),(n,(ts,())),())=some (true,()):=by
 rw[eo,ZK];simp only[Dh,ASE]
 have e:=Gg (step:=LD) (fun i=>(n,ts,n,ts,(i:Int),())) ts (fun _=>false) (fun _=>.inl (false,())) (.inr (.inl ())) (by omega)
  (fun i x hi a=>by
   rw[LD,A6,A2,AR9 hi]
   simp only[A' a,sg,ASE]
   rw[A5 (by omega)]
   rfl)
  (by rw[LD,A6,A2,AR8 (by omega)])
 have b:A9 LD many (n,ts,n,ts,(0:Int),())=_:=e;simp only[b];simp
end Go.Pev.Pl
end
end
section
namespace Go.Pev.Pl
open Tok
theorem AFl(ts:List Tie)(t:Tie)(k:Int):trk (ts++[t]) k=trk ts k++if t.2.2.2.1=true/\k<=t.2.2.1 then [ed t]else []:=by rw[Cl];congr 1;unfold trk;rw[ATJ];by_cases h:t.2.2.2.1=true/\k<=t.2.2.1;rw[ASL h,h.1,AR9 h.2];rfl;rw[ASH h,ASH];rfl;rw[ASB,ASC];exact h
theorem m9(k:Int):∀ (ts a:List Tie) (b:List Edge),b=trk a k->ts.foldl (fun b t=>if t.2.2.2.1=true/\k<=t.2.2.1 then b++[ed t]else b) b=trk (a++ts) k:=by
 intro ts;induction ts with
  |nil=>intro a b h;simpa using h
  |cons t ts c=>intro a b h;rw[AS2,c (a++[t])];simp;rw[AFl,<- h];split<;>simp
theorem xw(ts:List Tie)(k:Int):(trk ts k).length<=ts.length:=by unfold trk;rw[ASZ];exact ATR _ _
theorem iM(ts:List Tie)(k:Int):∀ e∈trk ts k,e∈ts.map ed:=by intro e a;obtain⟨t,b,_,_,rfl⟩:=EM.1 a;exact ASS.2 ⟨t,b,rfl⟩
theorem AId(n:Int)(ts:List Tie)(g:ts.length<=400)(k:Int):UU ((n,(ts,())),k,())=some (trk ts k,()):=by
 rw[UT,SU]
 have e:=DL (step:=FE) (fun i (a:List Edge)=>(k,a,ts,A4 ts,(i:Int),())) ts (fun t a=>.inl (if t.2.2.2.1=true/\k<=t.2.2.1 then a++[ed t]else a)) (fun a=>.inl (a,())) (fun i a=>a.length<=i) (by omega)
  (fun i x a hi d h=>by
   refine⟨fun j b => ?_,fun r b=>(by cases b)⟩
   cases b
   constructor
   ·rw[FE,A6,A2,AR9 hi]
    simp only[A' d,A6]
    rw[A5 (by omega),BM,CC (by simp only[ASK,ASV];omega)]
    cases l:x.2.2.2.1
    ·simp
    ·by_cases c:k<=x.2.2.1
     ·simp[c,ed,B6]
     ·simp[c]
   ·split
    ·rw[ASN];simp;omega
    ·omega)
  (fun a _=>by rw[FE,A6,A2,AR8 (by omega)]) [] (ASG _)
 have f:A9 FE many (k,[],ts,A4 ts,(0:Int),())=_:=e;simp only[f];rw[B2 (fun(t:Tie) (a:List Edge)=>if t.2.2.2.1=true/\k<=t.2.2.1 then a++[ed t]else a),m9 k ts [] [] rfl];rfl
theorem Tl(n:Int)(ts:List Tie)(g:ts.length<=400)(k:Int):O4 ((n,(ts,())),k,())=some (trk ts k,()):=by
 rw[Yp,Tn]
 have e:=DL (step:=JE) (fun i (a:List Edge)=>(k,n,ts,a,(i:Int),())) ts (fun t a=>.inl (if t.2.2.2.1=true/\k<=t.2.2.1 then a++[ed t]else a)) (fun a=>.inl (a,())) (fun i a=>a.length<=i) (by omega)
  (fun i x a hi d h=>by
   refine⟨fun j b => ?_,fun r b=>(by cases b)⟩
   cases b
   constructor
   ·rw[JE,A6,A2,AR9 hi]
    simp only[A' d,A6]
    rw[A5 (by omega),BM,CC (by simp only[ASK,ASV];omega)]
    cases l:x.2.2.2.1
    ·simp
    ·by_cases c:k<=x.2.2.1
     ·simp[c,ed,B6]
     ·simp[c]
   ·split
    ·rw[ASN];simp;omega
    ·omega)
  (fun a _=>by rw[JE,A6,A2,AR8 (by omega)]) [] (ASG _)
 have f:A9 JE many (k,n,ts,[],(0:Int),())=_:=e;simp only[f];rw[B2 (fun(t:Tie) (a:List Edge)=>if t.2.2.2.1=true/\k<=t.2.2.1 then a++[ed t]else a),m9 k ts [] [] rfl];rfl
theorem Rm{N:Nat}{ts:List Tie}(h:oks N ts):trs ts ts.length=trk ts 0:=by rw[iL];unfold trk;congr 1;refine ATn fun t a => ?_;have:=((MS N ts).1 h).1 t a;rw[AR9 this.2.2.2.1,Bool.and_true]
theorem RG2.fo0{N:Nat}{ts:List Tie}(h:RG2 N ts):Fo N (trk ts 0):=by rw[<- Rm h.oks];exact h.fo
theorem RG2.inK{N:Nat}{ts:List Tie}(h:RG2 N ts)(k:Int):∀ e∈trk ts k,In (N:Int) e.1/\In (N:Int) e.2.1:=fun e a=>h.inE e (iM ts k e a)
theorem RG2.ARa{N:Nat}{ts:List Tie}(h:RG2 N ts)(k:Int):(trk ts k).length<=400:=ASs (xw ts k) h.ht
theorem RG2.AQk{N:Nat}{ts:List Tie}(h:RG2 N ts)(k:Int):∃ a,PI (((N:Int),(ts,())),k,())=some (((N:Int),(a,())),0,())/\FC (N:Int) a (trk ts k):=by
 have d:=h.ARa k;have f:=h.h1;have g:=h.hN;rcases(ki (N:Int) (trk ts k) ⟨by omega,by omega⟩ (by omega)).symm with⟨b,_⟩|⟨_,a,e,c⟩
 exact absurd (h.inK k) b;refine⟨a,?_,c⟩;rw[Qp,PH];simp only[h.lr,ASE,AId (N:Int) ts h.ht k,e]
theorem RG2.zo{N:Nat}{ts:List Tie}(h:RG2 N ts)(k:Int):∃ out,FN ((N:Int),trk ts k,())=some (out,())/\KF (N:Int) (trk ts k) out:=by have:=h.ARa k;have a:=h.h1;have b:=h.hN;exact D3 (N:Int) (trk ts k) ⟨by omega,by omega⟩ (by omega) (h.inK k)
noncomputable def LI(p:Prop):Bool:=@decide p (Classical.propDecidable _)
theorem Ee(p:Prop):LI p=true↔p:=by unfold LI;exact @decide_eq_true_iff _ (Classical.propDecidable _)
theorem SB{p:Prop}{b:Bool}(h:b=true↔p):b=LI p:=by rw[ATH,Ee];exact h
def XJ(ts:List Tie):Prop:=∀ e∈ts.map ed,Con (trk ts 0) e.1 e.2.1
def mY(ts:List Tie):Prop:=∀ t∈ts,t.2.2.2.1=false->Con (trk ts t.2.2.1) t.1 t.2.1
def TX(N:Nat)(ts:List Tie):Prop:=∀ k:Nat,(k:Int)<=JG N->∀ v:Nat,v<N->csz N (trk ts k) v<=max 1 (N/2 ^ k)
theorem AEs{N:Nat}(m:1<=N)(n:N<=64){l i:List Edge}{o o':List Int}(j:KF (N:Int) l o)(d:KF (N:Int) i o')(p:∀ e∈l,In (N:Int) e.1/\In (N:Int) e.2.1)(k:∀ e∈i,In (N:Int) e.1/\In (N:Int) e.2.1):
  o=o'↔(∀ e∈l,Con i e.1 e.2.1)/\(∀ e∈i,Con l e.1 e.2.1):=by constructor;rintro rfl;refine⟨fun e f => ?_,fun e f => ?_⟩;obtain⟨g,h⟩:=p e f;exact(d.same _ _ g h).1 ((j.same _ _ g h).2 (.edge e f));obtain⟨g,h⟩:=k e f;exact(j.same _ _ g h).1 ((d.same _ _ g h).2 (.edge e f));rintro⟨q,r⟩;exact KF.unique m n j (KF.congr (fun a b=>⟨fun c=>c.cut r,fun c=>c.cut q⟩) d)
noncomputable def vM(ts:List Tie)(t:Tie):Bool := !t.2.2.2.1 && !FV (trk ts t.2.2.1) t.1 t.2.1
theorem ANK(ts:List Tie):(!ts.any (vM ts))=LI (mY ts):=by refine SB ?_;rw[ATG,AUG];unfold vM mY;constructor;intro h t a b;have:=h t a;rw[b]at this;rw[<- CL];simpa using this;intro h t a;cases b:t.2.2.2.1;have:=h t a b;rw[<- CL]at this;simp[this];simp
theorem RG2.tie{N:Nat}{ts:List Tie}(h:RG2 N ts){t:Tie}(b:t∈ts):In (N:Int) t.1/\In (N:Int) t.2.1/\t.1<t.2.1/\0<=t.2.2.1/\t.2.2.1<=JG N:=by have a:=((MS N ts).1 h.oks).1 t b;have c:=h.inE (ed t) (ASS.2 ⟨t,b,rfl⟩);exact⟨c.1,c.2,a.2.1,a.2.2.2.1,a.2.2.2.2⟩
noncomputable def mM(N:Nat)(ts:List Tie)(k:Nat):Bool:=(List.range N).any fun v=>decide (max 1 (N/2 ^ k)<csz N (trk ts k) (v:Int))
def Bx(N:Nat):Nat:=(JG N).toNat
theorem EG{N:Nat}(a:N<=64):JG N=(Bx N:Int):=by have:=NV a;unfold Bx;omega
theorem MA{N:Nat}(a:N<=64):Bx N<64:=by
 have:((List.range 65).all fun k=>decide (JG k<64))=true:=by kernel_rfl
 have b:=AUF (ASd.1 this N (by simp;omega));have:=EG a;omega
theorem AKo{N:Nat}(b:N<=64)(ts:List Tie):(!(List.range (Bx N+1)).any (mM N ts))=LI (TX N ts):=by refine SB ?_;rw[ATG,AUG];unfold mM TX;constructor;intro h k c v a;have d:=h k (by rw[ASb];have:=EG b;omega);rw[Bool.not_eq_true,AUG]at d;have:=d v (by simpa using a);rw[ASk]at this;omega;intro h k c;rw[ASb]at c;rw[Bool.not_eq_true,AUG];intro v a;have:=h k (by rw[EG b];omega) v (by simpa using a);rw[ASk];omega
theorem TC(N:Nat)(l:List Edge)(v:Int):csz N l v<=N:=by unfold csz;have:=List.countP_le_length (p:=fun(w:Nat)=>FV l v (w:Int)) (l:=List.range N);rw[ASP]at this;exact this
theorem AFY(n:Nat)(h:n<18446744073709551616):IntKind.wrap .u64 (n:Int)=(n:Int):=IntWalk.u64_in _ (by omega)
theorem RG2.snd{N:Nat}{ts:List Tie}(h:RG2 N ts)(b:XJ ts/\mY ts/\TX N ts):Snd N (Bx N:Int) ts:=by refine⟨fun x a => ?_,fun x a=>VG (h.inE _ (ASS.2 ⟨x,a,rfl⟩)),h.fo0,b.2.1,fun _ k c v d=>b.2.2 k (by rw[EG h.hN];exact c) v d⟩;rw[<- EG h.hN];exact(h.tie a).2.2.2
theorem Snd.parts{N:Nat}{ts:List Tie}(h:RG2 N ts)(a:Snd N (Bx N:Int) ts):XJ ts/\mY ts/\TX N ts:=by refine⟨fun e b=>(a.span _ _).1 (.edge e b),a.lie,fun k c v d=>a.halv trivial k (by rw[<- EG h.hN];exact c) v d⟩
theorem ALl{N:Nat}(a:N<=64):N/2 ^ Bx N<=1:=by
 have:((List.range 65).all fun k=>decide (k/2 ^ Bx k<=1))=true:=by kernel_rfl
 exact AUF (ASd.1 this N (by simp;omega))
theorem RG2.below{N:Nat}{ts:List Tie}(h:RG2 N ts)(b:Snd N (Bx N:Int) ts){t:Tie}(a:t∈ts):t.2.2.1<(Bx N:Int):=
 b.below (ALl h.hN) a (by have:=(h.tie a).2.2.1;omega)
noncomputable def H5(N:Nat)(l:List Edge)(v:Int):List Int:=((List.range N).filter fun(w:Nat)=>FV l v (w:Int)).map fun(w:Nat)=>(w:Int)
theorem N6(N:Nat)(l:List Edge)(v:Int):(H5 N l v).length=csz N l v:=by unfold H5 csz;rw[ASZ,List.countP_eq_length_filter]
theorem aF{N:Nat}{l:List Edge}{v x:Int}:x∈H5 N l v↔(0<=x/\x<(N:Int))/\Con l v x:=by unfold H5;simp only[ASS,ASa,ASb,CL];constructor;rintro⟨w,⟨a,b⟩,rfl⟩;exact⟨by omega,b⟩;rintro⟨⟨a,b⟩,c⟩;obtain⟨w,rfl⟩:=ASD a;exact⟨w,⟨by omega,c⟩,rfl⟩
theorem dK{N:Nat}(j:1<=N)(l:N<=64)(ts:List Tie)(m:ts.length<=400)(d:∀ e∈ts.map ed,In (N:Int) e.1/\In (N:Int) e.2.1)(v:Nat)(n:v<N)(k:Int):PE (((N:Int),(ts,())),(v:Int),k,())=some (H5 N (trk ts k) (v:Int),()):=by
 obtain⟨o,p,g⟩:=D3 (N:Int) (trk ts k) ⟨by omega,by omega⟩ (by have:=xw ts k;omega) (fun e q=>d e (iM ts k e q));have u:o.length=N:=by have:=g.len;omega
 have hi:∀ k:Nat,k<N->In (N:Int) (k:Int):=fun k y=>fi j l ⟨by omega,by omega⟩;have h:∀ k:Nat,o.getD k 0=cl o (k:Int):=fun k=>by unfold cl;rw[ASv]
 rw[SO,N5];simp only[Tl (N:Int) ts m,p]
 have e:=DL (step:=GV) (fun i (a:List Int)=>((v:Int),(N:Int),ts,o,a,(i:Int),())) (List.range N) (fun(w:Nat) a=>.inl (if FV (trk ts k) (v:Int) (w:Int)=true then a++[(w:Int)]else a)) (fun a=>.inl (a,())) (fun i a=>a.length<=i) (by simp;omega)
  (fun i x a b s z=>by
   refine⟨fun A f => ?_,fun r f=>(by cases f)⟩
   cases f
   have:=DB s
   subst this
   rw[ASP]at b
   constructor
   ·rw[GV,A2,AR9 b]
    simp only[Dr 0 (show x<o.length by omega),Dr 0 (show v<o.length by omega),Gk,BB]
    rw[CC (by simp only[A6,ASK,ASV];omega),A5 (by omega)]
    have:decide (o.getD x 0=o.getD v 0)=FV (trk ts k) (v:Int) (x:Int):=by
     rw[ATH,ASk,CL,h,h,g.same _ _ (hi x b) (hi v n)]
     exact⟨fun c=>c.symm,fun c=>c.symm⟩
    rw[this]
    cases FV (trk ts k) (v:Int) (x:Int)<;>simp[B6]
   ·split
    ·rw[ASN];simp;omega
    ·omega)
  (fun a _=>by rw[GV,ASP,A2,AR8 (by omega)]) [] (ASG _)
 have t:A9 GV many ((v:Int),(N:Int),ts,o,[],(0:Int),())=_:=e;simp only[t];rw[B2 (fun(w:Nat) (a:List Int)=>if FV (trk ts k) (v:Int) (w:Int)=true then a++[(w:Int)]else a),kg (fun w:Nat=>FV (trk ts k) (v:Int) (w:Int)=true) (fun w:Nat=>(w:Int))];unfold H5;simp
noncomputable def B9(N:Nat)(ts:List Tie)(u v k:Int):List Int:=
 if LI (RG2 N ts)=true then
  if FV (trk ts k) u v=true then []else
  if csz N (trk ts k) u<csz N (trk ts k) v\/(csz N (trk ts k) u=csz N (trk ts k) v/\(H5 N (trk ts k) u).headD 0<(H5 N (trk ts k) v).headD 0)then H5 N (trk ts k) u else H5 N (trk ts k) v
 else []
theorem AA3(N:Nat)(ts:List Tie)(u v k:Int):(B9 N ts u v k).length<=N:=by unfold B9;have a:=TC N (trk ts k) u;have b:=TC N (trk ts k) v;split;split;simp;split;rw[N6];exact a;rw[N6];exact b;simp
theorem fR{N:Nat}{l:List Edge}{v:Nat}(d:v<N):idx (H5 N l (v:Int)) (0:Int)=some ((H5 N l (v:Int)).headD 0):=by
 have:(v:Int)∈H5 N l (v:Int):=aF.2 ⟨⟨by omega,by omega⟩,.refl _⟩;cases c:H5 N l (v:Int)with
  |nil=>rw[c]at this;cases this
  |cons a b=>rw[H8];rfl
theorem iF{α:Type}{A R:List α}{x:α}{i:Nat}(h:A.length=i):(A++x::R)[i]? = some x:=by grind
theorem iE{α:Type}{A R:List α}{x y:α}{i:Nat}(h:A.length=i):Be (A++x::R) (A3 (i:Int)) y=A++y::R:=by rw[DX,List.set_append_right _ _ (by omega),h,AT0];rfl
noncomputable def BV(s:List Int)(w:Int):Bool:=decide (w∈s)
def K3(S:Int->Bool)(i:Int)(ts:List Tie):Nat:=ts.countP fun t=>t.2.2.2.1&&(decide (t.2.2.1=i)&&both S t)
noncomputable def JH(N u v:Nat)(top:Int):Nat->List Tie->Nat->List Tie×Option Edge×Nat
 |0,O,r=>(O,none,r)
 |i+1,O,r=>match(Bw (BV (B9 N O u v i)) top i (O.map (rT (BV (B9 N O u v i)) top i))).2.2 with
  |some e=>((Bw (BV (B9 N O u v i)) top i (O.map (rT (BV (B9 N O u v i)) top i))).1,some e,r+K3 (BV (B9 N O u v i)) i O+(Bw (BV (B9 N O u v i)) top i (O.map (rT (BV (B9 N O u v i)) top i))).2.1)
  |none=>JH N u v top i (Bw (BV (B9 N O u v i)) top i (O.map (rT (BV (B9 N O u v i)) top i))).1 (r+K3 (BV (B9 N O u v i)) i O+(Bw (BV (B9 N O u v i)) top i (O.map (rT (BV (B9 N O u v i)) top i))).2.1)
theorem UO(S:Int->Bool)(top i:Int):∀ ts:List Tie,(Bw S top i ts).1.length=ts.length/\(Bw S top i ts).2.1<=ts.length:=by
 intro ts;induction ts with
  |nil=>exact⟨rfl,ASG _⟩
  |cons t ts a=>rw[Bw];grind
theorem oW(S:Int->Bool)(top i:Int):∀ ts:List Tie,(Bw S top i ts).1.map ed=ts.map ed:=by
 intro ts;induction ts with
  |nil=>rfl
  |cons t ts a=>rw[Bw];split;grind;split;rw[ASQ,ASQ,a];rfl;split;rw[ASQ,ASQ];rfl;grind
theorem zn(S:Int->Bool)(i:Int)(ts:List Tie):K3 S i ts<=ts.length:=List.countP_le_length
def AFa(a:Bool)(f:Option Edge)(r:Nat):Bool×Bool×Edge×Int×Unit:=(a,f.isSome,((f.getD (0,0,())).1,((f.getD (0,0,())).2.1,())),(r:Int),())
def AFZ:Bool×Bool×Edge×Int×Unit:=(false,(false,(((0:Int),((0:Int),())),((0:Int),()))))
noncomputable def C3(N:Nat)(ts:List Tie)(p:Nat)(t:Tie):List Tie×Option Edge×Nat:=
 if t.2.2.2.1=true then JH N t.1.toNat t.2.1.toNat (Bx N:Int) (t.2.2.1.toNat+1) (ts.take p++ts.drop (p+1)) 0 else(ts.take p++ts.drop (p+1),none,0)
theorem AG5{N:Nat}(k:1<=N)(h:N<=64){O:List Tie}(b:O.length<=400)(i:(O.map ed).Pairwise Cw)(c:∀ e∈O.map ed,e.1<e.2.1)(f:∀ x∈O,InE N (ed x))(l:∀ x∈O,0<=x.2.2.1/\x.2.2.1<=(Bx N:Int))(g:Fo N (trk O 0)):RG2 N O:=by
 have j:oks N O:=by rw[MS];refine⟨fun t b => ?_,?_⟩;have a:=c (ed t) (ASS.2 ⟨t,b,rfl⟩);obtain⟨⟨m,n⟩,o,c2⟩:=f t b;have d:=l t b;rw[<- EG h]at d;exact⟨m,a,c2,d.1,d.2⟩;rw[ATd]at i;exact i
 exact⟨k,h,b,j,by rw[Rm j];exact g⟩
theorem RG2.edP{N:Nat}{ts:List Tie}(h:RG2 N ts):(ts.map ed).Pairwise Cw:=by rw[ATd];exact((MS N ts).1 h.oks).2
theorem RG2.ARh{N:Nat}{ts:List Tie}(h:RG2 N ts):∀ e∈ts.map ed,e.1<e.2.1:=by intro e a;obtain⟨t,b,rfl⟩:=ASS.1 a;exact(h.tie b).2.2.1
theorem ij{N:Nat}{O:List Tie}(h:RG2 N O){u v i:Nat}(b:u<N)(d:v<N)(e:¬ Con (trk O i) (u:Int) (v:Int)):∃ c,Ot N ((u:Int),((v:Int),())) i O (BV (B9 N O u v i)) c:=by
 unfold B9;rw[(Ee _).2 h,ASL rfl,ASH (by rw[CL];exact e)];have a:∀ c:Nat,c<N->∀ w:Nat,w<N->(BV (H5 N (trk O i) (c:Int)) (w:Int)=true↔Con (trk O i) (c:Int) (w:Int)):=by intro c f w g;unfold BV;rw[ASk,aF];exact⟨fun q=>q.2,fun q=>⟨⟨by omega,by omega⟩,q⟩⟩
 split;rename_i q;exact⟨u,b,.inl rfl,a u b,by show 2*_<=csz N (trk O i) (u:Int)+csz N (trk O i) (v:Int);omega⟩;rename_i q;exact⟨v,d,.inr rfl,a v d,by show 2*_<=csz N (trk O i) (u:Int)+csz N (trk O i) (v:Int);omega⟩
theorem AGH{n:Prop}{N:Nat}(C:1<=N)(D:N<=64){u v:Nat}(E:u<N)(F:v<N):∀ (m:Nat) (O:List Tie) (r:Nat),m<=Bx N+1->O.length<=400->(O.map ed).Pairwise Cw->(∀ e∈O.map ed,e.1<e.2.1)->Km n N (Bx N:Int) ((u:Int),((v:Int),())) (m:Int) O ->
  (JH N u v (Bx N:Int) m O r).1.map ed=O.map ed/\RW n N (Bx N:Int) (JH N u v (Bx N:Int) m O r).1 /\
  ((JH N u v (Bx N:Int) m O r).2.1=none->¬ Con (trk (JH N u v (Bx N:Int) m O r).1 0) (u:Int) (v:Int)) /\
  ((JH N u v (Bx N:Int) m O r).2.1≠none->Con (trk (JH N u v (Bx N:Int) m O r).1 0) (u:Int) (v:Int)):=by
 intro m;induction m with
  |zero=>intro O r _ _ _ _ b;obtain⟨f,g⟩:=b.end;exact⟨rfl,f,fun _=>g,fun h=>absurd rfl h⟩
  |succ i G=>
   intro O r P q s j b;have d:Km n N (Bx N:Int) ((u:Int),((v:Int),())) ((i:Int)+1) O:=b;have k:(i:Int)<=(Bx N:Int):=by omega
   have H:RG2 N O:=AG5 C D q s j b.ins b.lvl (b.fo.front (Rn b.ins 0) (fun e w=>by rw[ASj]at w;subst w;exact b.it));obtain⟨c,y⟩:=ij H E F (i:=i) (d.apart i);rw[JH];generalize BV (B9 N O u v (i:Int))=S at *;have o:((O.map (rT S (Bx N:Int) i)).map ed)=O.map ed:=by rw[List.map_map];exact ATa fun t _=>Zf S _ _ t
   have a:=oW S (Bx N:Int) i (O.map (rT S (Bx N:Int) i));have p:=UO S (Bx N:Int) i (O.map (rT S (Bx N:Int) i));rw[o]at a;cases z:(Bw S (Bx N:Int) i (O.map (rT S (Bx N:Int) i))).2.2 with
    |none=>obtain⟨f,g⟩:=ua S (Bx N:Int) i _ z;have l:=d.next k y g;rw[<- f]at l;simp only[];have:=G (Bw S (Bx N:Int) i (O.map (rT S (Bx N:Int) i))).1 (r+K3 S i O+(Bw S (Bx N:Int) i (O.map (rT S (Bx N:Int) i))).2.1) (by omega) (by rw[p.1,ASZ];exact q) (by rw[a];exact s) (by rw[a];exact j) l;rw[a]at this;exact this
    |some e=>obtain⟨A,x,B,I,J,K,L,M,Q⟩:=uZ S (Bx N:Int) i e _ z;obtain⟨f,g⟩:=d.found k y I K L M;rw[<- J]at f g;simp only[];exact⟨a,f,fun h=>(by cases h),fun _=>g⟩
theorem ADe{g:Prop}{N:Nat}{ts:List Tie}(h:RG2 N ts)(o:RW g N (Bx N:Int) ts){p:Nat}{t:Tie}(z:ts[p]? = some t):
  RG2 N (C3 N ts p t).1/\RW g N (Bx N:Int) (C3 N ts p t).1/\(C3 N ts p t).1.map ed=(ts.take p++ts.drop (p+1)).map ed /\
  (t.2.2.2.1=true->((C3 N ts p t).2.1≠none↔Con ((ts.take p++ts.drop (p+1)).map ed) t.1 t.2.1))/\(t.2.2.2.1=false->(C3 N ts p t).2.1=none/\(C3 N ts p t).2.2=0):=by
 have i:p<ts.length:=(ASM.1 z).1;have j:ts[p]=t:=(ASM.1 z).2;have d:ts=ts.take p++t::ts.drop (p+1):=by conv=>lhs;rw[<- AS8 p ts,ASr i,j]
 have H:t∈ts:=j▸ASu i;obtain⟨A,B,I,J,T⟩:=h.tie H;have U:=EG h.hN;have c:((ts.take p++ts.drop (p+1)).map ed).Sublist (ts.map ed):=by
  conv=>rhs;rw[d]
  exact(List.Sublist.append_left (List.sublist_cons_self _ _) _).map ed
 have k:(ts.take p++ts.drop (p+1)).length<=400:=by have:=h.ht;rw[ASN,ASp,ATX];omega
 have C:=h.edP.sublist c;have D:∀ e∈(ts.take p++ts.drop (p+1)).map ed,e.1<e.2.1:=fun e l=>h.ARh e (c.subset l);have fin:∀ n:List Tie,n.map ed=(ts.take p++ts.drop (p+1)).map ed->RW g N (Bx N:Int) n->RG2 N n:=fun n l f=>AG5 h.h1 h.hN (by have:=ASt List.length l;rw[ASZ,ASZ]at this;omega) (by rw[l];exact C) (by rw[l];exact D) f.ins f.lvl f.fo
 unfold C3;cases E:t.2.2.2.1;simp only[ASR,ASX];have f:RW g N (Bx N:Int) (ts.take p++ts.drop (p+1)):=by rw[d]at o;exact o.other E
 exact⟨fin _ rfl f,f,trivial,fun q=>q.elim,fun _=>⟨trivial,trivial⟩⟩;simp only[ASh];obtain⟨a,F⟩:=ASD A.2.2.1;obtain⟨b,G⟩:=ASD B.2.2.1;obtain⟨r,s⟩:=ASD J;have u:a<N:=by have:=A.2.2.2;omega
 have v:b<N:=by have:=B.2.2.2;omega
 have w:Km g N (Bx N:Int) ((a:Int),((b:Int),())) ((r+1:Nat):Int) (ts.take p++ts.drop (p+1)):=by
  have m:=o;rw[d]at m;have:=m.ARK E;have K:ed t=((a:Int),((b:Int),())):=by unfold ed;rw[F,G]
  rw[K,s]at this;exact this
 have L:t.1.toNat=a:=by omega
 have M:t.2.1.toNat=b:=by omega
 have O:t.2.2.1.toNat+1=r+1:=by omega
 rw[L,M,O];obtain⟨x,y,P,Q⟩:=AGH h.h1 h.hN u v (r+1) (ts.take p++ts.drop (p+1)) 0 (by omega) k C D w;refine⟨fin _ x y,y,x,fun _ => ?_,fun q=>by cases q⟩;rw[<- x,y.span,F,G];constructor;exact Q;intro R S;exact P S R
noncomputable def CK(N:Nat)(ts:List Tie)(l:List Edge):List Edge:=(Dy N l).filter fun x=>decide (x∈ts.map ed)
noncomputable def pZ(ts:List Tie)(k:Nat):Bool:=ts.any fun t => !t.2.2.2.1&&(decide (t.2.2.1=(k:Int)) && !FV (trk ts k) t.1 t.2.1)
theorem nP{N:Nat}{ts:List Tie}(h:RG2 N ts)(s:Int)(k:Nat){o:List Int}(g:KF (N:Int) (trk ts k) o):
  A9 G5 many ((N:Int),ts,s,(k:Int),o,(0:Int),())=some (if pZ ts k then .inl (false,())else .inr (.inl ((N:Int),ts,s,(k:Int),()))):=by
 have n:=h.ht;have j:o.length=N:=by have:=g.len;omega
 have e:=Gg (step:=G5) (fun i=>((N:Int),ts,s,(k:Int),o,(i:Int),())) ts (fun t => !t.2.2.2.1&&(decide (t.2.2.1=(k:Int)) && !FV (trk ts k) t.1 t.2.1)) (fun _=>.inl (false,())) (.inr (.inl ((N:Int),ts,s,(k:Int),()))) (by omega)
  (fun i x hi l=>by
   obtain⟨a,b,_,p,q⟩:=h.tie (ASJ l)
   rw[G5,A6,A2,AR9 hi]
   simp only[A' l,WB j (show InV N x.1 from⟨a.2.2.1,a.2.2.2⟩),WB j (show InV N x.2.1 from⟨b.2.2.1,b.2.2.2⟩)]
   have hd:∀ w:Int,A_ o (A3 w) 0=cl o w:=fun _=>rfl
   rw[A5 (by omega),hd,hd,BB,BB]
   have:decide (cl o x.1=cl o x.2.1)=FV (trk ts k) x.1 x.2.1:=by
    rw[ATH,ASk,CL]
    exact g.same _ _ a b
   rw[this]
   generalize FV (trk ts (k:Int)) x.1 x.2.1=c
   generalize decide (x.2.2.1=(k:Int))=d
   generalize x.2.2.2.1=f
   cases f<;>cases d<;>cases c<;>rfl)
  (by rw[G5,A6,A2,AR8 (by omega)])
 have m:A9 G5 many ((N:Int),ts,s,(k:Int),o,(0:Int),())=_:=e;rw[m];rfl
theorem nQ{N:Nat}{ts:List Tie}(h:RG2 N ts)(k:Nat):
  A9 G4 many ((N:Int),ts,((N/2 ^ k:Nat):Int),(k:Int),(0:Int),())=some (if mM N ts k then .inl (false,())else .inr (.inl ((N:Int),ts,((N/2 ^ k:Nat):Int),(k:Int),()))):=by
 have f:=h.hN
 have e:=Gg (step:=G4) (fun i=>((N:Int),ts,((N/2 ^ k:Nat):Int),(k:Int),(i:Int),())) (List.range N) (fun v=>decide (max 1 (N/2 ^ k)<csz N (trk ts k) (v:Int))) (fun _=>.inl (false,())) (.inr (.inl ((N:Int),ts,((N/2 ^ k:Nat):Int),(k:Int),()))) (by simp;omega)
  (fun i x hi a=>by
   have:=DB a
   subst this
   rw[ASP]at hi
   have b:=TC N (trk ts k) (x:Int)
   have c:N/2 ^ k<=N:=AUy _ _
   rw[G4,A2,AR9 hi]
   simp only[dK h.h1 h.hN ts h.ht h.inE x hi,A6,N6,Mf]
   rw[A5 (by omega),BC]
   have:decide (max (1:Int) ((N/2 ^ k:Nat):Int)<(csz N (trk ts k) (x:Int):Int))=decide (max 1 (N/2 ^ k)<csz N (trk ts k) (x:Int)):=ATv.2 (by omega)
   rw[this]
   cases decide (max 1 (N/2 ^ k)<csz N (trk ts k) (x:Int))<;>simp)
  (by rw[G4,ASP,A2,AR8 (by omega)])
 have d:A9 G4 many ((N:Int),ts,((N/2 ^ k:Nat):Int),(k:Int),(0:Int),())=_:=e;rw[d];rfl
theorem ANL{N:Nat}{ts:List Tie}(h:RG2 N ts):((List.range (Bx N+1)).any fun k=>pZ ts k)=ts.any (vM ts):=by rw[ATH,ATZ,ATZ];constructor;rintro⟨k,_,a⟩;unfold pZ at a;rw[ATZ]at a;obtain⟨t,b,q⟩:=a;simp only[ASB,ASC]at q;refine⟨t,b,?_⟩;unfold vM;rw[q.2.1,ASB];exact⟨q.1,q.2.2⟩;rintro⟨t,b,q⟩;unfold vM at q;rw[ASB]at q;obtain⟨_,_,_,c,d⟩:=h.tie b;obtain⟨k,a⟩:=ASD c;have e:=EG h.hN;refine⟨k,by rw[ASb];omega,?_⟩;unfold pZ;rw[ATZ];refine⟨t,b,?_⟩;rw[a]at q;simp only[ASB,ASC];exact⟨q.1,a,q.2⟩
theorem Nh{N:Nat}{ts:List Tie}(h:RG2 N ts):MF (((N:Int),(ts,())),())=some (LI (XJ ts/\mY ts/\TX N ts),()):=by
 have G:=h.ht;have p:=h.h1;have m:=h.hN;have H:=MA h.hN;have f:=EG h.hN;obtain⟨a,r,n⟩:=D3 (N:Int) (ts.map ed) ⟨by omega,by omega⟩ (by rw[ASZ];omega) h.inE;obtain⟨b,s,c2⟩:=h.zo 0;have I:a.length=N:=by have:=n.len;omega
 have J:b.length=N:=by have:=c2.len;omega
 rw[QM,O9];simp only[h.r21,ASE,qe (N:Int) ts h.ht h.r21,r,Tl (N:Int) ts h.ht,s]
 have t:=Gg (step:=JM) (fun i=>((N:Int),ts,a,b,(i:Int),())) (List.range N) (fun k => !decide (a.getD k 0=b.getD k 0)) (fun _=>.inl (false,())) (.inr (.inl ((N:Int),ts,()))) (by simp;omega)
  (fun i x hi g=>by
   have:=DB g
   subst this
   rw[ASP]at hi
   rw[JM,A2,AR9 hi]
   simp only[Dr 0 (show x<a.length by omega),Dr 0 (show x<b.length by omega),Gk,BB]
   rw[A5 (by omega)]
   cases decide (a.getD x 0=b.getD x 0)<;>simp)
  (by rw[JM,ASP,A2,AR8 (by omega)])
 have j:A9 JM many ((N:Int),ts,a,b,(0:Int),())=_:=t;have c:(!(List.range N).any fun k => !decide (a.getD k 0=b.getD k 0))=LI (XJ ts):=by
  refine SB ?_;have u:(!(List.range N).any fun k => !decide (a.getD k 0=b.getD k 0))=true↔a=b:=by rw[ATG,AUG];constructor;intro v;refine S2 0 (by omega) fun k K => ?_;have:=v k (by rw[ASb];omega);simpa using this;rintro rfl k _;simp
  rw[u,AEs p m n c2 h.inE (h.inK 0)];exact⟨fun q=>q.1,fun q=>⟨q,fun e w=>.edge e (iM ts 0 e w)⟩⟩
 have y:=Gg (step:=JL) (fun i=>((N:Int),ts,((N/2 ^ i:Nat):Int),(i:Int),())) (List.range (Bx N+1)) (fun k=>pZ ts k||mM N ts k) (fun _=>.inl (false,())) (.inr (.inl ())) (by simp;omega)
  (fun i x hi g=>by
   have:=DB g
   subst this
   rw[ASP]at hi
   obtain⟨o,z,A⟩:=h.zo x
   have B:N/2 ^ x<=N:=AUy _ _
   rw[JL]
   simp only[O5 N h.hN,f]
   rw[Dq,AR9 (by omega)]
   simp only[Tl (N:Int) ts h.ht,z,nP h _ x A]
   cases pZ ts x
   ·simp only[ASR,ASX,nQ h x,AUa]
    cases mM N ts x
    ·simp only[ASR,ASX]
     rw[AHG (by omega),A5 (by omega)]
     simp only[]
     rw[Nat.pow_succ,Nat.div_div_eq_div_mul]
    ·rfl
   ·rfl)
  (by
   rw[JL,ASP]
   simp only[O5 N h.hN,f]
   rw[Dq,AR8 (by omega)])
 have C:((N/2 ^ 0:Nat):Int)=(N:Int):=by simp
 have d:A9 JL many ((N:Int),ts,((N/2 ^ 0:Nat):Int),(0:Int),())=_:=y;rw[C]at d;have l:((List.range (Bx N+1)).any fun k=>pZ ts k||mM N ts k)=(ts.any (vM ts)||(List.range (Bx N+1)).any (mM N ts)):=by
  rw[<- ANL h];generalize List.range (Bx N+1)=xs;induction xs with
   |nil=>rfl
   |cons x xs D=>simp only[List.any_cons,D];cases pZ ts x<;>cases mM N ts x<;>simp
 have E:=ANK ts;have F:=AKo m ts;rw[l]at d;simp only[j];have fin:LI (XJ ts/\mY ts/\TX N ts)=(LI (XJ ts)&&(LI (mY ts)&&LI (TX N ts))):=by symm;refine SB ?_;rw[ASB,ASB,Ee,Ee,Ee]
 rw[fin,<- c,<- E,<- F];cases (List.range N).any fun k => !decide (a.getD k 0=b.getD k 0);simp only[ASR,ASX,d];cases ts.any (vM ts)<;>cases (List.range (Bx N+1)).any (mM N ts)<;>rfl;rfl
theorem AD8{A B:List Edge}{x:Edge}(h:(A++x::B).Pairwise Cw):A++B=(A++x::B).filter fun e=>decide (e≠x):=by
 have b:∀ e∈A,e≠x:=fun e a=>by rw[List.pairwise_append]at h;have:=h.2.2 e a x (by simp);rintro rfl;unfold Cw at this;omega
 have c:∀ e∈B,e≠x:=fun e a=>by rw[List.pairwise_append,AS3]at h;have:=h.2.1.1 e a;rintro rfl;unfold Cw at this;omega
 rw[ATP,ATJ,ASH (by simp),ATK.2 (fun e a=>AR9 (b e a)),ATK.2 (fun e a=>AR9 (c e a))]
theorem VO{N:Nat}{ts:List Tie}{l:List Edge}{x:Edge}(a:x∈CK N ts l):0<=x.1/\x.1<x.2.1/\x.2.1<(N:Int)/\x∈ts.map ed:=by unfold CK at a;rw[ASa,Fv,ASk]at a;exact⟨a.1.1,a.1.2.1,a.1.2.2.1,a.2⟩
theorem Jo(N:Nat)(ts:List Tie)(l:List Edge):(CK N ts l).Pairwise Cw:=(Nv N l).filter _
theorem La(N:Nat)(a:N<=64)(ts:List Tie)(l:List Edge):(CK N ts l).length<=4096:=ASs (ATR _ _) (Zo N a l)
section
variable {N top:Nat} {ts w:List Tie} (hp:w.Perm ts) (hi:∀ x∈ts,InE N (ed x)) (hl:∀ t∈ts,0<=t.2.2.1/\t.2.2.1<=(top:Int)) (hfo:Fo N (trk ts 0)) (hlie:∀ x∈ts,x.2.2.2.1=false->Con (trk ts x.2.2.1) x.1 x.2.1)
include hp hi
include hl hfo hlie
end
def lvl(ts:List Tie)(k:Int):List Tie:=ts.filter fun t=>decide (t.2.2.1=k)
section
variable (n:Int) (ts:List Tie)
end
def mid(f:Int->Int)(xs:List Int)(i:Nat):List Int:=(xs.take i).map f++xs.drop i
def lb(a:List Int)(v:Int):Int:=a.getD v.toNat 0
section
variable {α β:Type} [DecidableEq α]
theorem aK(b:List (α×β))(k:α)(v:β)(j:α):A7 (BF b k v) j=if j=k then some v else A7 b j:=by
 induction b with
  |nil=>simp only[BF,A7];by_cases h:j=k;rw[ASL h,ASL h.symm];rw[ASH h,ASH (ATy h)]
  |cons e b d=>obtain⟨a,x⟩:=e;by_cases c:a=k;subst c;simp only[BF,A7,ASh];by_cases h:j=a;rw[ASL h,ASL h.symm];rw[ASH h,ASH (ATy h),ASH (ATy h)];simp only[BF,A7,c,ASX,d];by_cases h:a=j;subst h;rw[ASL rfl,ASH c,ASL rfl];rw[ASH h,ASH h]
theorem fK:∀ (c:List (α×β)) (k:α),FU c k=none->∀ v,BF c k v=c++[(k,v)]:=by
 intro c;induction c with
  |nil=>intro k _ v;rfl
  |cons e c f=>intro k h v;obtain⟨a,b⟩:=e;by_cases d:a=k;simp[FU,d]at h;simp only[FU,d,ASX,AU9]at h;simp only[BF,d,ASX,f k h v,ASl]
theorem fJ:∀ (c:List (α×β)) (k:α) (n:Nat),FU c k=some n->∀ v,n<c.length/\BF c k v=c.modify n fun e=>(e.1,v):=by
 intro c;induction c with
  |nil=>intro k n h;simp[FU]at h
  |cons e c f=>intro k n h v;obtain⟨a,b⟩:=e;by_cases d:a=k;simp only[FU,d,ASh,ASA]at h;subst h;simp[BF,d];simp only[FU,d,ASX,ASO]at h;obtain⟨m,g,rfl⟩:=h;obtain⟨j,i⟩:=f k m g v;simp only[BF,d,ASX,ASK];exact⟨by omega,by rw[i];rfl⟩
theorem vP(a:List (α×β))(k:α)(z v:β):(ile (0:Int) (SC a k)&&ilt (SC a k) (A4 (BF a k z)))=true/\pd (BF a k z) (SC a k) v=BF a k v:=by
 rw[BM,BC];unfold SC pd;cases h:FU a k with
  |none=>
   rw[fK a k h,fK a k h,Option.getD_none,ASv];constructor;rw[AR9 (by omega),AR9 (by rw[A6,ASN];simp;omega)];rfl;have:∀ (xs:List (α×β)),(xs++[(k,z)]).modify xs.length (fun e=>(e.1,v))=xs++[(k,v)]:=by
    intro xs;induction xs with
     |nil=>rfl
     |cons x xs b=>rw[ASl,ASK,List.modify_succ_cons,b];rfl
   exact this a
  |some n=>
   obtain⟨f,c⟩:=fJ a k n h z;obtain⟨_,d⟩:=fJ a k n h v;rw[c,d,ATA,ASv];constructor;rw[AR9 (by omega),AR9 (by rw[A6,List.length_modify];omega)];rfl;apply ATB;intro i;simp only[List.getElem?_modify];cases a[i]? with
    |none=>split<;>rfl
    |some e=>split<;>rfl
end
theorem SZ(p x:Tie):Fb (p,x,())=some (if ahead p x then -1 else if p.1=x.1/\p.2.1=x.2.1 then 0 else 1,()):=by rw[N_,Mb];simp only[M3,ji];congr 2;unfold RN ahead;omega
theorem AKm{ts:List Tie}(H:ts.length<=400)(A:ts.Pairwise ahead)(g:Tie):∃ k:Nat,k<=ts.length/\(∀ j t,ts[j]? = some t->(j<k↔ahead t g)) /\
  AKn (ts,g,())=some ((k:Int),match ts[k]? with|some t=>decide (t.1=g.1/\t.2.1=g.2.1)|none=>false,()):=by
 have o:∀ (i j:Nat) (t t':Tie),i<=j->ts[i]? = some t->ts[j]? = some t'->ahead t' g->ahead t g:=by intro i j t t' m w z B;by_cases e:i=j;grind;have q:=(ASM.1 z).1;have hi:=(ASM.1 w).1;have:=AS7.1 A i j hi q (by omega);rw[(ASM.1 w).2,(ASM.1 z).2]at this;exact this.trans B
 obtain⟨a,b,c,d,⟨⟩⟩:=g
 obtain⟨k,_,C,I,J,D⟩:=AR1 (step:=TR) (fun i j=>(ts,a,b,c,d,(ts.length:Int),(i:Int),(j:Int),())) (fun i=>match ts[i]? with|some t=>decide (ahead t (a,b,c,d,()))|none=>false)
  (fun i=>.inl (ts,a,b,c,d,(ts.length:Int),(i:Int),())) 0 ts.length (ATw _) (by omega)
  (fun i j _ m q=>by
   have E:(i+j)/2<ts.length:=by omega
   have l:ts[(i+j)/2]? = some ts[(i+j)/2]:=by simp[E]
   have F:shr? .u64 (((i+j:Nat)):Int) (1:Int)=some (((i+j)/2:Nat):Int):=Xv (i+j) 1 (by omega)
   rw[TR,A2,AR9 m]
   simp only[]
   rw[show((i:Int)+(j:Int))=((i+j:Nat):Int) by omega,BG (n:=((i+j:Nat):Int)) (by omega),AFY (i+j) (by omega)]
   simp only[F,BG (n:=(((i+j)/2:Nat):Int)) (by omega),A' l]
   have r:=SZ ts[(i+j)/2] (a,b,c,d,())
   have f:Fb (((ts[(i+j)/2]).1,((ts[(i+j)/2]).2.1,((ts[(i+j)/2]).2.2.1,((ts[(i+j)/2]).2.2.2.1,())))),(a,(b,(c,(d,())))),())=_:=r
   simp only[f,l]
   by_cases p:ahead ts[(i+j)/2] (a,b,c,d,())
   ·simp only[ASL p,AR9 p,ASh]
    rw[BC,AR9 (by omega),A5 (by omega)]
   ·simp only[ASH p,AR8 p]
    rw[BC,AR8 (by omega)]
    rfl)
  (fun i _ _=>by rw[TR,A2,AR8 (by omega)])
  (fun x y _ G K h=>by
   grind)
 refine⟨k,C,fun j t q => ?_,?_⟩;grind;rw[zt,xe];have s:A9 TR many (ts,a,b,c,d,A4 ts,(0:Int),A4 ts,())=_:=D;simp only[s];by_cases u:k<ts.length;have l:ts[k]? = some ts[k]:=by simp[u]
 have v:¬ ahead ts[k] (a,b,c,d,()):=by grind
 have r:=SZ ts[k] (a,b,c,d,());have f:Fb (((ts[k]).1,((ts[k]).2.1,((ts[k]).2.2.1,((ts[k]).2.2.2.1,())))),(a,(b,(c,(d,())))),())=_:=r;rw[A2,AR9 u];simp only[A' l,f,l,ASH v,BB];simp;have l:ts[k]? = none:=ATf (by omega);rw[A2,AR8 u];grind
theorem fZ{N:Nat}{ts:List Tie}(h:RG2 N ts)(u v:Int):pw (((N:Int),(ts,())),u,v,())=some (if ts.any (Db u v)then((ts.findIdx (Db u v):Nat):Int)else -1,()):=by
 have q:=((MS N ts).1 h.oks).2;obtain⟨k,z,l,s⟩:=AKm h.ht q (min u v,max u v,0,false,());rw[pr,jy];simp only[h.lr,ASE,fX,aI,KY,Mf];have m:AKn (ts,(min u v,(max u v,((0:Int),(false,())))),())=_:=s;simp only[m];cases n:ts[k]? with
  |none=>
   have i:ts.any (Db u v)=false:=by
    rw[AUG];intro t w a;obtain⟨j,g,rfl⟩:=AS5 w;have c:ts[j]? = some ts[j]:=by simp[g]
    have b:j<k:=by grind
    have d:=(l j _ c).1 b;unfold Db at a;rw[ASk]at a;unfold ahead at d;grind
   grind
  |some t=>
   by_cases A:t.1=min u v/\t.2.1=max u v;have x:=(ASM.1 n)
   obtain⟨e,f⟩:=x;have a:Db u v t=true:=by unfold Db;grind
   have r:ts.any (Db u v)=true:=ATZ.2 ⟨t,ASJ n,a⟩;have y:ts.findIdx (Db u v)=k:=by
    rw[List.findIdx_eq e,f];refine⟨a,fun j g => ?_⟩;have c:ts[j]? = some ts[j]:=by simp
    have d:=(l j _ c).1 g;unfold Db;rw[ASg];unfold ahead at d;grind
   grind;have i:ts.any (Db u v)=false:=by
    rw[AUG];intro t' o a;obtain⟨j,g,rfl⟩:=AS5 o;have c:ts[j]? = some ts[j]:=by simp[g]
    unfold Db at a;rw[ASk]at a;obtain⟨e,f⟩:=ASM.1 n;rcases AUi j k with b|b|b;have d:=(l j _ c).1 b;unfold ahead at d;grind;grind;have d:=AS7.1 q k j e g b;rw[f]at d;have p:¬ ahead t (min u v,max u v,0,false,()):=fun B=>by grind
    unfold ahead at d p;grind
   grind
end Go.Pev.Pl
end
section
namespace Go.Pev.Pl.SI
open Go.Sort
def ok(_:Int):Prop:=True
def lt(x y:Int):Bool:=decide (x<y)
theorem swo:SWO lt:=⟨fun x=>by simp[lt],fun x y z a b=>by simp only[lt,ASC]at *;omega,fun x y z a b=>by simp only[lt,ASg]at *;omega⟩
theorem ANV{x y:Int}(_:ok x)(_:ok y):∃ r,C9 (x,y,())=some (r,())/\tId r=lt x y:=by refine⟨decide (x<y),?_,rfl⟩;rw[px,jz];simp only[KT,MT,BC,Cd];by_cases h:x<y<;>simp[h]
noncomputable def S:SG.SP Int Bool:=⟨(0:Int),C9,tId,ok,0,trivial,lt,swo,fun a b=>ANV a b⟩
def sorted(xs:List Int):List Int:=xs.mergeSort (fun x y=>decide (x<=y))
theorem AAz(xs:List Int)(h:xs.length<4294967296):nT (xs,())=some (sorted xs,()):=by
 obtain⟨ys,e,d,f⟩:=SG.FX S xs h (fun _ _=>trivial);have g:nT (xs,())=some (ys,()):=e;rw[g];have i:(sorted xs).Perm xs:=List.mergeSort_perm _ _;have j:(sorted xs).Pairwise (·<=·):=by have:=List.pairwise_mergeSort (le:=fun x y:Int=>decide (x<=y)) (fun a b c d f=>by simp at *;omega) (fun a b=>by simp;omega) xs;exact this.imp fun h=>by simpa using h
 have k:ys.Pairwise (·<=·):=f.imp fun {a b} q=>by have:lt b a=false:=q;unfold lt at this;rw[ASg]at this;omega
 rw[ATg (le:=fun a b:Int=>a<=b) (fun a b _ _ d f=>by omega) k j (d.trans i.symm)]
end Go.Pev.Pl.SI
end
section
namespace Go.Pev.Pl
open Tok
theorem kW{a o:List Int}{m k:Nat}(h:a.drop m=o.drop m)(b:m<=k):a.getD k 0=o.getD k 0:=by have:=ASt (fun l=>l.getD (k-m) 0) h;grind
theorem Nd{xs:List Int}{i:Nat}(h:i<xs.length):xs.take (i+1)=xs.take i++[xs.getD i 0]:=by simp_all
theorem AJ5(o:List Int)(n:Int)(b:List (List Int))(t:o.length<4294967296):∀ (k j w:Nat) (a:List Int) (cnt:Nat),j+k=o.length->a.length=o.length->w=(FF n (o.take j)).length->a.take w=FF n (o.take j)->w<j->a.drop j=o.drop j->k<cnt ->
  ∃ f:List Int,BD Fm cnt (a,n,b,(w:Int),(j:Int),())=some (.inl (f,n,b,(((FF n o).length:Nat):Int),()))/\f.length=o.length/\f.take (FF n o).length=FF n o:=by
 intro k;induction k with
  |zero=>
   intro j w a cnt q g m i l hd r;obtain⟨cnt,rfl⟩:∃ k,cnt=k+1:=⟨cnt-1,by omega⟩
   have e:j=o.length:=by omega
   subst e;rw[ASc]at m i;rw[BD,Fm,A6,A2,AR8 (by omega)];grind
  |succ k p=>
   intro j w a cnt q g m i l hd r;obtain⟨cnt,rfl⟩:∃ k,cnt=k+1:=⟨cnt-1,by omega⟩
   have s:a.getD j 0=o.getD j 0:=kW hd (ASG _);have d:a.drop (j+1)=o.drop (j+1):=by have:=ASt (List.drop 1) hd;simpa only[ATm]using this
   have c:FF n (o.take (j+1))=FF n (o.take j)++if n<=o.getD j 0 then []else [o.getD j 0]:=by rw[Nd (by omega),FF,ATP];generalize o.getD j 0=v;by_cases h:n<=v<;>simp[FF,h]
   rw[BD,Fm,A6,A2,AR9 (by omega)];simp (disch:=omega) only[Dr (0:Int),Gk,DX,s,BM,A5];by_cases h:n<=o.getD j 0;rw[AR9 h];rw[ASL h,ATM]at c;exact p (j+1) w a cnt (by omega) g (by grind) (by grind) (by omega) d (by omega);rw[AR8 h];rw[ASH h]at c;refine p (j+1) (w+1) (a.set w (o.getD j 0)) cnt (by omega) (by simp[g]) (by grind) ?_ (by omega) ?_ (by omega);rw[c,<- i,ATF (by grind)];simp[List.take_set_of_le];rw[List.drop_set_of_lt (by omega)];exact d
theorem fY{n:Int}{o:List Int}(h:∀ j,j<o.length->decide (n<=o.getD j 0)=false):FF n o=o:=by rw[FF,ATK];intro x a;obtain⟨j,b,e⟩:=AS5 a;grind
theorem AOU(o:List Int)(n:Int)(b:List (List Int))(g:o.length<4294967296):
  ∃ a:List Int,Ir (o,n,b,())=some (a,n,b,(((FF n o).length:Nat):Int),())/\a.take (FF n o).length=FF n o:=by
 have u:4294967296<many:=by simp only[many];omega
 rw[NF,Jw,ND,Jm];simp only[A6]
 rcases AGg (step:=Di) (fun i=>(o,n,b,(o.length:Int),(i:Int),())) o.length (fun i=>decide (n<=o.getD i 0)) (fun i=>.inl (o,n,b,(i:Int),())) (.inr (.inl (o,n,b,()))) (by omega)
   (fun i hi=>by
    rw[Di]
    simp (disch:=omega) only[A2,hi,ASU,Dr (0:Int),Gk,BM,A5]
    grind) (by rw[Di];simp only[A2,Nat.lt_irrefl,ASo])with⟨k,hk,hP,hF,e⟩|⟨hP,e⟩
 have d:A9 Di many (o,n,b,(o.length:Int),(0:Int),())=_:=e;have f:FF n (o.take k)=o.take k:=fY fun j v=>by grind
 have h:FF n (o.take (k+1))=o.take k:=by
  rw[Nd hk,FF,ATP];have:(List.filter (fun t => !decide (n<=t)) [o.getD k 0])=[]:=by grind
  rw[this,ATM];exact f
 obtain⟨c,m,w,p⟩:=AJ5 o n b g (o.length-(k+1)) (k+1) k o many (by omega) rfl (by grind) (by rw[h]) (by omega) rfl (by omega);have q:(FF n o).length<=o.length:=ATR _ _;have r:(Ci (FF n o).length (c.length-(FF n o).length) 0 c).length=c.length:=by simp[Ci];omega
 have s:Dd (Ci (FF n o).length (c.length-(FF n o).length) 0 c) (0:Int) (((FF n o).length:Nat):Int)=some _:=Tv (l:=0) (by omega) (by omega);simp only[d,Cd];rw[show((k:Int) == -1)=false from beq_false_of_ne (by omega),A5 (by omega)];simp only[BR,m];rw[Tv (by omega) (by omega)];simp only[ASc,ATX,OU,s];refine⟨Ci (FF n o).length (c.length-(FF n o).length) 0 c,?_,?_⟩;grind;rw[Ci,List.take_append_of_le_length (by grind),AUT,Nat.min_self];exact p;have d:A9 Di many (o,n,b,(o.length:Int),(0:Int),())=_:=e;have f:=fY hP;simp only[d,Cd];simp_all
theorem nS{n:Int}{A:List Int}(h:RG n A):SI.sorted (FF n A)=Pp n A:=by
 have e:(SI.sorted (FF n A)).Perm (FF n A):=List.mergeSort_perm _ _;have d:=ADA h;have f:(SI.sorted (FF n A)).Pairwise (·<=·):=by have:=List.pairwise_mergeSort (le:=fun x y:Int=>decide (x<=y)) (fun a b c g i=>by grind) (fun a b=>by grind) (FF n A);exact this.imp fun h=>by grind
 exact ATg (le:=fun a b:Int=>a<=b) (fun a b _ _ g i=>by omega) f ((mz n A).imp fun h=>by omega) (e.trans d)
theorem kj{n:Int}{b:List (List Int)}{i:Nat}{A:List Int}{v:Int}(h:FR n b)(d:In n v)(hi:b[i]? = some A)(g:v∈A):Ld ((n,(b,())),v,())=some (Pp n A,0,()):=by
 have e:=h.dom;have c:=RZ.2 h;have f:=h.rg A (ASJ hi);have o:=f.1.1;rw[Wz,RB];have j:Mq ((n,(b,())),[v],())=some (0,()):=by rw[Q9 n b _ e (by simp),AK2];grind
 obtain⟨a,k,l⟩:=AOU A n b (by omega);simp only[j,aZ,ASE,xy n b v e,c,d,and_self,ASh,h.jU hi d.2.2.2 g,A' hi,HW (show A.length<=4294967296 by omega),k,DA,OU,l];have m:(FF n A).length<=A.length:=ATR _ _;rw[SI.AAz _ (by omega),nS f]
theorem sT{N:Nat}{a:List (List Int)}{l:List Edge}(h:FC (N:Int) a l){i:Nat}{A:List Int}{v:Int}(b:In (N:Int) v)(hi:a[i]? = some A)(c:v∈A):Pp (N:Int) A=H5 N l v:=by
 have d:=ASJ hi;obtain⟨e,f⟩:=h.fr.sz;unfold Pp H5;rw[ASv,List.filter_map];congr 1;refine ATn fun w g => ?_;rw[ASb]at g;have j:In (N:Int) (w:Int):=⟨e,f,by omega,by omega⟩
 show decide ((w:Int)∈A)=FV l v (w:Int);rw[ATH,ASk,CL,<- h.sam v (w:Int) b j];constructor;intro k;exact⟨A,d,c,k⟩;rintro⟨B,m,n,o⟩;rw[h.fr.one d m b.2.2.2 c n];exact o
theorem FC.members{N:Nat}{a:List (List Int)}{l:List Edge}(h:FC (N:Int) a l){v:Int}(b:In (N:Int) v):Ld (((N:Int),(a,())),v,())=some (H5 N l v,0,()):=by obtain⟨i,A,_,hi,c,_⟩:=QZ (h.fr.cov v b);rw[kj h.fr b hi c,sT h b hi c]
theorem Zs{n:Int}{ts:List Tie}(u v:Int)(a:Cu ((n,(ts,())),())=some (false,())):UI ((n,(ts,())),u,v,())=some (0,1,()):=by rw[UH,SD];grind
theorem Zr{N:Nat}{ts:List Tie}(h:RG2 N ts)(u v:Int):UI (((N:Int),(ts,())),u,v,())=some (if InV N u/\InV N v then(if ts.any (Db u v)=true then((ts.findIdx (Db u v):Nat):Int)else 0)else 0,if InV N u/\InV N v then(if ts.any (Db u v)=true then 0 else 6)else 10,()):=by
 rw[UH,SD];simp only[h.lr,ASE,KY,Mf,BC,BM];by_cases b:min u v<0;have a:¬ (InV N u/\InV N v):=fun q=>by unfold InV at q;omega
 grind;simp only[AR8 b];by_cases c:(N:Int)<=max u v;have a:¬ (InV N u/\InV N v):=fun q=>by unfold InV at q;omega
 grind;have a:InV N u/\InV N v:=⟨⟨by omega,by omega⟩,by omega,by omega⟩
 simp only[AR8 c,ASL a,fZ h];grind
theorem oG{N:Nat}(C:N<=64)(ts:List Tie)(D:ts.length<=400)(u v:Nat)(m:u<N)(n:v<N)(k:Int):∃ e,yP (((N:Int),(ts,())),(u:Int),(v:Int),k,())=some (B9 N ts u v k,e,()):=by
 by_cases a:RG2 N ts;have E:=a.h1;have o:In (N:Int) (u:Int):=⟨by omega,by omega,by omega,by omega⟩
 have p:In (N:Int) (v:Int):=⟨by omega,by omega,by omega,by omega⟩
 have s:InV N (u:Int)/\InV N (v:Int):=⟨⟨by omega,by omega⟩,by omega,by omega⟩
 obtain⟨F,t,i⟩:=a.AQk k;have w:=N6 N (trk ts k) (u:Int);have x:=N6 N (trk ts k) (v:Int);have G:=TC N (trk ts k) (u:Int);have H:=TC N (trk ts k) (v:Int);have y:∀ l:List Int,A_ l 0 0=l.headD 0:=fun l=>by cases l<;>rfl
 have c:=Hk (H5 N (trk ts k) (u:Int)) (v:Int) (by omega);have z:ieq (if(ts.any (Db (u:Int) (v:Int)))=true then(0:Int)else 6) 1=false:=by split<;>(rw[BB];rfl)
 have A:ieq (if(ts.any (Db (u:Int) (v:Int)))=true then(0:Int)else 6) 10=false:=by split<;>(rw[BB];rfl)
 rw[Zj,X0];simp only[Zr a,ASL s,t,i.members o,i.members p,c,fR m,fR n,y,M3,ji,z,A];rw[B9,ASL ((Ee _).2 a)];have B:decide ((v:Int)∈H5 N (trk ts k) (u:Int))=FV (trk ts k) (u:Int) (v:Int):=by rw[ATH,ASk,aF,CL];grind
 rw[B];cases FV (trk ts k) (u:Int) (v:Int);simp only[A6,w,x,ASR,ASX];by_cases d:csz N (trk ts k) (u:Int)<csz N (trk ts k) (v:Int);have b:RN (csz N (trk ts k) (u:Int):Int) (csz N (trk ts k) (v:Int):Int) = -1:=by unfold RN;omega
 simp only[b,ASH (show ¬ ((-1:Int)=0) by omega),BC,AR9 (show(-1:Int)<0 by omega),ASL (show csz N (trk ts k) (u:Int)<csz N (trk ts k) (v:Int)\/_ from .inl d)];simp;by_cases b:csz N (trk ts k) (u:Int)=csz N (trk ts k) (v:Int);have f:RN (csz N (trk ts k) (u:Int):Int) (csz N (trk ts k) (v:Int):Int)=0:=by unfold RN;omega
 simp only[f,ASh];by_cases j:(H5 N (trk ts k) (u:Int)).headD 0<(H5 N (trk ts k) (v:Int)).headD 0;have g:RN ((H5 N (trk ts k) (u:Int)).headD 0) ((H5 N (trk ts k) (v:Int)).headD 0) = -1:=by unfold RN;omega
 simp only[g,BC,AR9 (show(-1:Int)<0 by omega),ASL (show _\/_/\_ from .inr ⟨b,j⟩)];simp;have g:¬ RN ((H5 N (trk ts k) (u:Int)).headD 0) ((H5 N (trk ts k) (v:Int)).headD 0)<0:=by unfold RN;omega
 simp only[BC,AR8 g,ASH (show ¬ (_\/_/\_)from fun q=>q.elim d fun q=>j q.2)];simp;have f:RN (csz N (trk ts k) (u:Int):Int) (csz N (trk ts k) (v:Int):Int)=1:=by unfold RN;omega
 simp only[f,ASH (show ¬ ((1:Int)=0) by omega),BC,AR8 (show ¬ (1:Int)<0 by omega),ASH (show ¬ (_\/_/\_)from fun q=>q.elim d fun q=>b q.1)];simp;simp;rcases UC (N:Int) ts (by omega)with⟨I,r⟩|⟨J,e,h⟩
 rw[Zj,X0,B9,ASH (fun q=>a ((Ee _).1 q))];simp only[Zs _ _ r,Dh];simp;grind
def ofM(s:List Int):List (Int×Int):=s.foldl (fun m w=>BF m w 1) []
theorem AIW(w:Int):∀ (s:List Int) (m:List (Int×Int)),(A7 (s.foldl (fun m w=>BF m w 1) m) w).getD 0=if w∈s then 1 else(A7 m w).getD 0:=by
 intro s;induction s with
  |nil=>simp
  |cons x s a=>intro m;rw[AS2,a,aK];grind
theorem yu(s:List Int)(w:Int):(A7 (ofM s) w).getD 0=if BV s w=true then 1 else 0:=by unfold ofM BV;rw[AIW];simp[A7]
def W4(S:Int->Bool)(x:Tie):Int:=(if S x.1=true then 1 else 0)+(if S x.2.1=true then 1 else 0)
theorem gJ(s:List Int)(x:Tie):w64 ((A7 (ofM s) x.1).getD 0+(A7 (ofM s) x.2.1).getD 0)=W4 (BV s) x:=by rw[yu,yu];unfold W4;rw[BG (by omega)]
theorem qc(S:Int->Bool)(x:Tie):ieq (W4 S x) 2=both S x:=by rw[BB];unfold W4 both;grind
theorem ADz(S:Int->Bool)(x:Tie):ieq (W4 S x) 0=(!S x.1 && !S x.2.1):=by rw[BB];unfold W4;grind
theorem AJt(S:Int->Bool)(x:Tie):ieq (W4 S x) 1=decide (IX S x):=by rw[BB];refine ATv.2 ?_;unfold W4 IX;grind
def otp(i:Int):Nat->List Tie->List Int
 |_,[]=>[]
 |j,x::R=>if x.2.2.2.1=false/\x.2.2.1=i then(j:Int)::otp i (j+1) R else otp i (j+1) R
theorem AQN(S:Int->Bool)(top i:Int):∀ (R:List Tie) (j:Nat),otp i j (R.map (rT S top i))=otp i j R:=by
 intro R;induction R with
  |nil=>simp
  |cons x R a=>intro j;rw[ASQ,otp,otp,a,MM];by_cases h:x.2.2.2.1=false;rw[Hz h];grind
section
variable (n:Int) (a2 a3:Bool) (a4 a5 top:Int)
theorem AB0(O:List Tie)(r i:Int)(s:List Int)(f:s.length<=400):
  A9 UN many (n,O,a2,a3,a4,a5,r,top,i,([]:List (Int×Int)),s,(s.length:Int),(0:Int),())=some (.inl (n,O,a2,a3,a4,a5,r,top,i,ofM s,())):=by
 have e:=DL (step:=UN) (fun j (m:List (Int×Int))=>(n,O,a2,a3,a4,a5,r,top,i,m,s,(s.length:Int),(j:Int),())) s (fun w m=>.inl (BF m w 1)) (fun m=>.inl (n,O,a2,a3,a4,a5,r,top,i,m,())) (fun _ _=>True) (by omega)
  (fun j x m c b _=>by
   refine⟨fun g a => ?_,fun r a=>(by cases a)⟩
   cases a
   refine⟨?_,trivial⟩
   unfold UN
   dsimp only
   rw[A2,AR9 c]
   simp only[A' b,Bm b]
   rw[A5 (by omega)])
  (fun m _=>by unfold UN;dsimp only;rw[A2,AR8 (by omega)]) [] trivial
 have d:A9 UN many (n,O,a2,a3,a4,a5,r,top,i,([]:List (Int×Int)),s,(s.length:Int),(0:Int),())=_:=e;rw[d,B2 (fun w (m:List (Int×Int))=>BF m w 1)];rfl
theorem ABz(O:List Tie)(E:O.length<=400)(r:Nat)(F:r<1073741824)(i:Nat)(hi:i<64)(s:List Int):
  A9 UM many (n,O,a2,a3,a4,a5,(r:Int),top,(i:Int),ofM s,([]:List Int),(O.length:Int),(0:Int),()) =
  some (.inl (n,O.map (rT (BV s) top i),a2,a3,a4,a5,((r+K3 (BV s) i O:Nat):Int),top,ofM s,otp i 0 O,())):=by
 have g:∀ (R A:List Tie) (j cnt q:Nat) (b:List Int),A.length=j->A.length+R.length=O.length->R.length<cnt->q+R.length<2147483648->b.length<=j ->
   BD UM cnt (n,A++R,a2,a3,a4,a5,(q:Int),top,(i:Int),ofM s,b,(O.length:Int),(j:Int),()) =
   some (.inl (n,A++R.map (rT (BV s) top i),a2,a3,a4,a5,((q+K3 (BV s) i R:Nat):Int),top,ofM s,b++otp i j R,())):=by
  intro R
  induction R with
  |nil=>
   intro A j cnt q b e l m o v
   obtain⟨cnt,rfl⟩:∃ c,cnt=c+1:=⟨cnt-1,by omega⟩
   unfold UM
   rw[BD]
   dsimp only
   rw[A2,AR8 (by grind)]
   simp[K3,otp]
  |cons x R w=>
   intro A j cnt q b e l m o v
   obtain⟨cnt,rfl⟩:∃ c,cnt=c+1:=⟨cnt-1,by omega⟩
   rw[ASK]at l m o
   have p:=iF (R:=R) (x:=x) e
   have next:∀ (y:Tie) (d:Nat) (a:List Int),d+R.length<2147483648->a.length<=j+1->rT (BV s) top i x=y->d+K3 (BV s) i R=q+K3 (BV s) i (x::R)->a++otp i (j+1) R=b++otp i j (x::R) ->
     BD UM cnt (n,A++y::R,a2,a3,a4,a5,(d:Int),top,(i:Int),ofM s,a,(O.length:Int),((j+1:Nat):Int),()) =
     some (.inl (n,A++(x::R).map (rT (BV s) top i),a2,a3,a4,a5,((q+K3 (BV s) i (x::R):Nat):Int),top,ofM s,b++otp i j (x::R),())):=by
    intro y d a h k G t z
    have:=w (A++[y]) (j+1) cnt d a (by simp[e]) (by simp;omega) (by omega) h k
    simp_all
   have B:K3 (BV s) i (x::R)=K3 (BV s) i R+if(x.2.2.2.1&&(decide (x.2.2.1=(i:Int))&&both (BV s) x))=true then 1 else 0:=by
    unfold K3
    grind
   have C:otp (i:Int) j (x::R)=if x.2.2.2.1=false/\x.2.2.1=(i:Int)then(j:Int)::otp i (j+1) R else otp i (j+1) R:=rfl
   unfold UM at next |-
   rw[BD]
   dsimp only
   rw[A2,AR9 (by omega)]
   simp only[A' p,Bm p]
   rw[A5 (show j+1<9223372036854775808 by omega),A5 (show q+1<9223372036854775808 by omega),BB]
   by_cases f:x.2.2.1=(i:Int)
   ·rw[AR9 f]
    simp only[ASE]
    cases u:x.2.2.2.1
    ·simp only[ASf]
     rw[CC (by simp only[A6,ASK,ASV];omega),OU,Ej]
     refine next x q _ (by omega) (by simp;omega) (Hz u) ?_ ?_
     ·grind
     grind
    ·simp only[ASE]
     rw[gJ,qc]
     cases D:both (BV s) x
     ·simp only[]
      refine next x q b (by omega) (by omega) ?_ ?_ ?_
      ·unfold rT
       grind
      all_goals grind
     ·simp only[]
      rw[iE e,KY,f,A5 (show i+1<9223372036854775808 by omega)]
      refine next _ (q+1) b (by omega) (by omega) ?_ ?_ ?_
      ·unfold rT
       rw[ASL ⟨u,f,D⟩]
       unfold FT
       grind
      all_goals grind
   ·rw[AR8 f]
    simp only[ASf]
    refine next x q b (by omega) (by omega) ?_ ?_ ?_
    ·unfold rT
     grind
    all_goals grind
 have:=g O [] 0 many r [] rfl (by simp) (by simp only[many];omega) (by omega) (by simp);rw[BR];grind
theorem ABy(O:List Tie)(k:O.length<=400)(r:Nat)(D:r<1073741824)(i:Nat)(hi:i<64)(s:List Int):
  A9 UL many (n,O,a2,a3,a4,a5,(r:Int),top,ofM s,otp i 0 O,((otp i 0 O).length:Int),(0:Int),()) =
  some (match(Bw (BV s) top i O).2.2 with
   |some e=>.inr (.inl (n,(Bw (BV s) top i O).1,a2,true,e.1,e.2.1,((r+(Bw (BV s) top i O).2.1:Nat):Int),top,true,()))
   |none=>.inl (n,(Bw (BV s) top i O).1,a2,a3,a4,a5,((r+(Bw (BV s) top i O).2.1:Nat):Int),top,())):=by
 have l:∀ (R A:List Tie) (j cnt q:Nat) (a:List Int),A.length=j->R.length<cnt->q+R.length<2147483648->a.length<=j->j+R.length<=400 ->
   BD UL cnt (n,A++R,a2,a3,a4,a5,(q:Int),top,ofM s,a++otp i j R,((a++otp i j R).length:Int),(a.length:Int),()) =
   some (match(Bw (BV s) top i R).2.2 with
    |some e=>.inr (.inl (n,A++(Bw (BV s) top i R).1,a2,true,e.1,e.2.1,((q+(Bw (BV s) top i R).2.1:Nat):Int),top,true,()))
    |none=>.inl (n,A++(Bw (BV s) top i R).1,a2,a3,a4,a5,((q+(Bw (BV s) top i R).2.1:Nat):Int),top,())):=by
  intro R
  induction R with
  |nil=>
   intro A j cnt q a d u v E w
   obtain⟨cnt,rfl⟩:∃ c,cnt=c+1:=⟨cnt-1,by omega⟩
   unfold UL
   rw[BD]
   dsimp only
   rw[A2,AR8 (by simp[otp])]
   rfl
  |cons x R z=>
   intro A j cnt q a d u v E w
   rw[ASK]at u v w
   have F:=iF (R:=R) (x:=x) d
   rw[Bw,otp]
   by_cases k:x.2.2.2.1=false/\x.2.2.1=(i:Int)
   ·obtain⟨G,B⟩:=k
    rw[ASL ⟨G,B⟩,ASH (fun H=>by grind)]
    obtain⟨cnt,rfl⟩:∃ c,cnt=c+1:=⟨cnt-1,by omega⟩
    have m:a.length<(a++(j:Int)::otp i (j+1) R).length:=by simp
    have g:(a++(j:Int)::otp i (j+1) R)[a.length]? = some (j:Int):=by simp
    have step:∀ (y:Tie) (f:Nat),f+R.length<2147483648 ->
      BD UL cnt (n,A++y::R,a2,a3,a4,a5,(f:Int),top,ofM s,a++(j:Int)::otp i (j+1) R,((a++(j:Int)::otp i (j+1) R).length:Int),((a.length+1:Nat):Int),()) =
      some (match(Bw (BV s) top i R).2.2 with
       |some e=>.inr (.inl (n,A++y::(Bw (BV s) top i R).1,a2,true,e.1,e.2.1,((f+(Bw (BV s) top i R).2.1:Nat):Int),top,true,()))
       |none=>.inl (n,A++y::(Bw (BV s) top i R).1,a2,a3,a4,a5,((f+(Bw (BV s) top i R).2.1:Nat):Int),top,())):=by
     intro y f o
     have:=z (A++[y]) (j+1) cnt f (a++[(j:Int)]) (by simp[d]) (by omega) o (by grind) (by omega)
     simp_all
    unfold UL at step |-
    rw[BD]
    dsimp only
    rw[A2,AR9 m]
    simp only[A' g,Bm g,Bm F]
    rw[A5 (show a.length+1<9223372036854775808 by omega),A5 (show q+1<9223372036854775808 by omega),gJ,ADz,qc,AJt]
    cases C:both (BV s) x
    ·simp only[ASR,ASX]
     by_cases h:IX (BV s) x
     ·have b:(!BV s x.1 && !BV s x.2.1)=false:=by
       unfold IX at h
       grind
      have p:(A++EC x::R)[j]? = some (EC x):=iF d
      simp only[b,AR9 h,ASL h]
      rw[iE d]
      rw[show((x.1,(x.2.1,(x.2.2.1,(true,())))):Tie)=EC x from rfl]
      simp only[Bm p,ATe]
      rfl
     ·have b:(!BV s x.1 && !BV s x.2.1)=true:=by
       unfold IX at h
       unfold both at C
       grind
      simp only[b,ASH h]
      grind
    ·have b:(!BV s x.1 && !BV s x.2.1)=false:=by
      unfold both at C
      grind
     simp only[b,ASh]
     rw[iE d,KY,B,A5 (show i+1<9223372036854775808 by omega)]
     have:=step (FT top x) (q+1) (by omega)
     have D:((x.1,(x.2.1,(min top ((i+1:Nat):Int),(x.2.2.2.1,())))):Tie)=FT top x:=by
      unfold FT
      grind
     grind
   ·have t:x.2.2.2.1=true\/x.2.2.1≠(i:Int):=by
     grind
    rw[ASH k,ASL t]
    have:=z (A++[x]) (j+1) cnt q a (by simp[d]) (by omega) (by omega) (by omega) (by omega)
    simp_all
 have:=l O [] 0 many r [] rfl (by simp only[many];omega) (by omega) (by simp) (by omega);rw[BR];grind
end
theorem AM4{N:Nat}(h:N<=64)(u v:Nat)(j:u<N)(k:v<N)(top:Int)(O:List Tie)(f:O.length<=400)(a b:Bool)(c d:Int)(r:Nat)(p:r<536870912)(i:Nat)(hi:i<64)(S:Int->Bool)(l:S=BV (B9 N O u v i)):
  pat ((N:Int),O,a,b,c,d,(r:Int),top,(u:Int),(v:Int),(i:Int),()) =
  some (match(Bw S top i (O.map (rT S top i))).2.2 with
   |some e=>((N:Int),(Bw S top i (O.map (rT S top i))).1,a,true,e.1,e.2.1,((r+K3 S i O+(Bw S top i (O.map (rT S top i))).2.1:Nat):Int),top,true,())
   |none=>((N:Int),(Bw S top i (O.map (rT S top i))).1,a,b,c,d,((r+K3 S i O+(Bw S top i (O.map (rT S top i))).2.1:Nat):Int),top,false,())):=by subst l;obtain⟨e,m⟩:=oG h O f u v j k (i:Int);have q:=AA3 N O u v (i:Int);have s:=zn (BV (B9 N O u v i)) i O;have n:=AB0 (N:Int) a b c d top O (r:Int) (i:Int) (B9 N O u v i) (by omega);have o:=ABz (N:Int) a b c d top O f r (by omega) i hi (B9 N O u v i);have g:=ABy (N:Int) a b c d top (O.map (rT (BV (B9 N O u v i)) top i)) (by grind) (r+K3 (BV (B9 N O u v i)) i O) (by omega) i hi (B9 N O u v i);rw[AQN]at g;rw[AHw,AHx];simp only[m,A6,n,o,g];grind
section
variable {α:Type} (z:α)
theorem az{a o:List α}{m k:Nat}(h:a.drop m=o.drop m)(b:m<=k):a.getD k z=o.getD k z:=by have:=ASt (fun l=>l.getD (k-m) z) h;simp only[ASY,AU1]at this;rw[Nat.add_sub_cancel' b]at this;simpa [ASY]using this
theorem NB{xs:List α}{i:Nat}(h:i<xs.length):xs.take (i+1)=xs.take i++[xs.getD i z]:=by rw[ATF h];simp[h]
theorem AJ4{σ ρ:Type}{step:σ->Option (σ⊕ρ)}(st:List α->Nat->Nat->σ)(fin:List α->Nat->ρ)(keep:α->Bool)(o:List α)
  (h:∀ a w j,a.length=o.length->j<o.length->w<j->a.getD j z=o.getD j z->step (st a w j)=some (.inl (if keep (o.getD j z)=true then st (a.set w (o.getD j z)) (w+1) (j+1)else st a w (j+1))))
  (p:∀ a w,a.length=o.length->step (st a w o.length)=some (.inr (fin a w))) :
  ∀ (k j w:Nat) (a:List α) (cnt:Nat),j+k=o.length->a.length=o.length->w=((o.take j).filter keep).length->a.take w=(o.take j).filter keep->w<j->a.drop j=o.drop j->k<cnt ->
  ∃ l:List α,BD step cnt (st a w j)=some (fin l (o.filter keep).length)/\l.length=o.length/\l.take (o.filter keep).length=o.filter keep:=by
 intro k;induction k with
  |zero=>
   intro j w a cnt q c d f g hd r;obtain⟨cnt,rfl⟩:∃ k,cnt=k+1:=⟨cnt-1,by omega⟩
   have e:j=o.length:=by omega
   subst e;rw[ASc]at d f;rw[BD,p a w c];exact⟨a,by rw[d],c,by rw[<- d];exact f⟩
  |succ k m=>
   intro j w a cnt q c d f g hd r;obtain⟨cnt,rfl⟩:∃ k,cnt=k+1:=⟨cnt-1,by omega⟩
   have s:=az z hd (ASG j);have i:a.drop (j+1)=o.drop (j+1):=by have:=ASt (List.drop 1) hd;simpa only[ATm]using this
   have b:(o.take (j+1)).filter keep=(o.take j).filter keep++if keep (o.getD j z)=true then [o.getD j z]else []:=by rw[NB z (by omega),ATP];generalize o.getD j z=v;by_cases h:keep v=true<;>simp[h]
   rw[BD,h a w j c (by omega) g s];by_cases n:keep (o.getD j z)=true;rw[ASL n]at b |-;refine m (j+1) (w+1) (a.set w (o.getD j z)) cnt (by omega) (by simp[c]) (by rw[b];simp[d]) ?_ (by omega) ?_ (by omega);rw[b,<- f,ATF (by simp;omega)];simp[List.take_set_of_le];rw[List.drop_set_of_lt (by omega)];exact i;rw[ASH n]at b |-;rw[ATM]at b;exact m (j+1) w a cnt (by omega) c (by rw[b];exact d) (by rw[b];exact f) (by omega) i (by omega)
theorem AEI{σ ρ σ' ρ':Type}{find:σ'->Option (σ'⊕ρ')}{step:σ->Option (σ⊕ρ)}(st:List α->Nat->Nat->σ)(fin:List α->Nat->ρ)(c:Nat->σ')(p:Nat->ρ')(fn:ρ')(keep:α->Bool)(o:List α)(B:o.length<4294967296)
  (h:∀ a w j,a.length=o.length->j<o.length->w<j->a.getD j z=o.getD j z->step (st a w j)=some (.inl (if keep (o.getD j z)=true then st (a.set w (o.getD j z)) (w+1) (j+1)else st a w (j+1))))
  (r:∀ a w,a.length=o.length->step (st a w o.length)=some (.inr (fin a w)))
  (f:∀ i,i<o.length->find (c i)=if keep (o.getD i z)=true then some (.inl (c (i+1)))else some (.inr (p i))) (s:find (c o.length)=some (.inr fn)) :
  (o.filter keep=o/\A9 find many (c 0)=some fn) \/
  (∃ k d,k<o.length/\A9 find many (c 0)=some (p k)/\A9 step many (st o k (k+1))=some (fin d (o.filter keep).length)/\d.length=o.length/\(o.filter keep).length<=o.length/\d.take (o.filter keep).length=o.filter keep):=by
 have C:4294967296<many:=by simp only[many];omega
 have b:∀ n,(∀ j,j<n->j<o.length->keep (o.getD j z)=true)->(o.take n).filter keep=o.take n:=by intro n t;rw[ATK];intro x u;obtain⟨j,l,rfl⟩:=AUx.1 u;have:=t j (by omega) (by omega);simpa [show j<o.length by omega]using this
 rcases AGg (step:=find) c o.length (fun i => !keep (o.getD i z)) p fn (by omega) (fun i hi=>by rw[f i hi];cases keep (o.getD i z)<;>rfl) s with⟨k,hk,hP,hF,e⟩|⟨hP,e⟩
 right;have q:keep (o.getD k z)=false:=by cases g:keep (o.getD k z);rfl;rw[g]at hP;cases hP
 have l:(o.take k).filter keep=o.take k:=b k fun j l _=>by have:=hF j l;cases g:keep (o.getD j z);rw[g]at this;cases this;rfl
 have m:(o.take (k+1)).filter keep=o.take k:=by rw[NB z hk,ATP,l,ATJ,q];simp
 obtain⟨d,v,y,A⟩:=AJ4 z st fin keep o h r (o.length-(k+1)) (k+1) k o many (by omega) rfl (by rw[m,ASp];omega) (by rw[m]) (by omega) rfl (by omega);exact⟨k,d,hk,e,by rw[BR];exact v,y,ATR _ _,A⟩;left;refine⟨?_,e⟩;have:=b o.length fun j _ m=>by have:=hP j m;cases g:keep (o.getD j z);rw[g]at this;cases this;rfl
 rwa [ASc]at this
theorem xN{a:List α}{w:Nat}(h:w<=a.length):(Ci w (a.length-w) z a).take w=a.take w/\(Ci w (a.length-w) z a).length=a.length:=by constructor;rw[Ci,List.take_append_of_le_length (by simp;omega),AUT,Nat.min_self];simp[Ci];omega
end
theorem ADa(n:Nat)(e:n<4294967296):zN ((n:Int),())=some ([],()):=by
 have a:w64 ((n:Int)-w64 ((0:Int)-0))=(n:Int):=by rw[BG (n:=(0:Int)-0) (by omega),BG (by omega)];omega
 rw[qH,kR];simp only[a,BC];rw[AR8 (by omega)];simp only[];by_cases h:0<n;rw[AR9 (by omega)];have b:Dd ([]:List Unit) (0:Int) (0:Int)=some []:=by rw[O7];rfl
 have c:Dd (ED (A3 (n:Int)) ((0:Int),((0:Int),((0:Int),(false,()))))) (0:Int) (0:Int)=some []:=by rw[O7,eT,ASL (by omega)];simp
 have d:Cq (n:Int)=true:=(I7 _).2 (by omega);simp only[b,c,d];rfl;grind
theorem rD(b:List (List Tie))(t:b.length<4294967296)(h:b.flatten.length<4294967296):TH (b,())=some (b.flatten,()):=by
 rw[br,Vu]
 have e:=DL (step:=Jz) (fun i (a:Nat)=>(b,(a:Int),b,A4 b,(i:Int),())) b (fun x a=>.inl (a+x.length)) (fun a=>.inl (b,(a:Int),())) (fun i a=>a=(b.take i).flatten.length) (by omega)
  (fun i x a hi d n=>by
   refine⟨fun o c => ?_,fun r c=>by cases c⟩
   cases c
   have j:=Eo d
   have k:=Fk b (i+1)
   rw[j,ASN]at k
   rw[Jz]
   simp only[A6]
   rw[A2,AR9 hi]
   simp only[A' d]
   rw[wrap_add (by omega),A5 (by omega),BC,AR8 (by omega)]
   grind)
  (fun a _=>by rw[Jz,A6,A2,AR8 (by omega)]) 0 rfl
 have p:A9 Jz many (b,(0:Int),b,A4 b,(0:Int),())=_:=e;rw[p,B2];have f:∀ (l:List (List Tie)) (a:Nat),l.foldl (fun a x=>a+x.length) a=a+l.flatten.length:=by
  intro l;induction l with
   |nil=>simp
   |cons x l q=>grind
 rw[f,ATE];simp only[ADa _ h]
 have g:=DL (step:=Jy) (fun i (a:List Tie)=>(a,b,A4 b,(i:Int),())) b (fun x a=>.inl (a++x)) (fun a=>.inl (a,())) (fun i a=>a=(b.take i).flatten) (by omega)
  (fun i x a hi d n=>by
   refine⟨fun o c => ?_,fun r c=>by cases c⟩
   cases c
   have j:=Eo d
   have k:=Fk b (i+1)
   rw[j,ASN]at k
   rw[Jy]
   simp only[A6]
   rw[A2,AR9 hi]
   simp only[A' d]
   rw[A5 (by omega),CC (by grind)]
   exact⟨rfl,by grind⟩)
  (fun a _=>by rw[Jy,A6,A2,AR8 (by omega)]) [] rfl
 have s:A9 Jy many ([],b,A4 b,(0:Int),())=_:=g;rw[s,B2];have m:∀ (l:List (List Tie)) (a:List Tie),l.foldl (fun a x=>a++x) a=a++l.flatten:=by
  intro l;induction l with
   |nil=>simp
   |cons x l q=>grind
 grind
def Gx(x:Edge):Edge:=(min x.1 x.2.1,max x.1 x.2.1,())
abbrev WM:=List (Edge×Int)
def Gw(m:WM)(x:Edge):Int:=(A7 m x).getD 0
theorem AJ6(o:List Edge)(m:WM)(f:o.length<4294967296):
  ∃ a:List Edge,My (o,m,())=some (a,m,(((o.filter fun x => !ieq (Gw m x) 0).length:Nat):Int),())/\a.take (o.filter fun x => !ieq (Gw m x) 0).length=o.filter fun x => !ieq (Gw m x) 0:=by
 have g:=AEI (find:=Ef) (step:=Hj) ((0:Int),(0:Int),()) (fun a (w j:Nat)=>(a,m,(w:Int),(j:Int),())) (fun a (w:Nat)=>.inl (a,m,(w:Int),())) (fun i=>(o,m,(o.length:Int),(i:Int),())) (fun i=>.inl (o,m,(i:Int),())) (.inr (.inl (o,m,()))) (fun x => !ieq (Gw m x) 0) o f
  (fun a w j d h t l=>by
   unfold Hj
   dsimp only
   simp (disch:=omega) only[A6,A2,d,h,ASU,Dr ((0:Int),(0:Int),()),Gk,DX,l,A5]
   unfold Gw
   grind)
  (fun a w d=>by unfold Hj;dsimp only;rw[A6,A2,AR8 (by omega)])
  (fun i hi=>by
   unfold Ef
   dsimp only
   simp (disch:=omega) only[A2,hi,ASU,Dr ((0:Int),(0:Int),()),Gk,A5]
   unfold Gw
   grind)
  (by unfold Ef;dsimp only;rw[A2,AR8 (by omega)])
 rw[QA,Mx,P6,Mk];generalize (fun x => !ieq (Gw m x) 0)=keep at *;rcases g with⟨n,e⟩|⟨k,b,u,e,p,v,q,y⟩
 have c:A9 Ef many (o,m,A4 o,(0:Int),())=_:=e;simp only[c,BB];exact⟨o,by rw[n];rfl,by grind⟩;have c:A9 Ef many (o,m,A4 o,(0:Int),())=_:=e;obtain⟨z,c2⟩:=xN ((0:Int),(0:Int),()) (a:=b) (w:=(o.filter keep).length) (by omega);have r:Dd (Ci (o.filter keep).length (b.length-(o.filter keep).length) ((0:Int),(0:Int),()) b) (0:Int) (((o.filter keep).length:Nat):Int)=some _:=Tw (by omega);have s:Dd b (((o.filter keep).length:Nat):Int) (b.length:Int)=some _:=Nf (by omega);simp only[c,BB];rw[AR8 (by omega),A5 (by omega)];simp only[p,s,A6,ATX,OU,r];grind
theorem uJ{N:Nat}(h:1<=N)(j:N<=64)(ts:List Tie)(l:List Edge)(k:l.length<1073741824)(m:WM)(i:Nat)(x:Edge)(hi:i<l.length)(e:l[i]? = some x)(n:0<=Gw m (Gx x)/\Gw m (Gx x)<=(i:Int)):
  H0 ((N:Int),ts,m,l,(l.length:Int),(i:Int),())=if In (N:Int) x.1/\In (N:Int) x.2.1 then some (.inl ((N:Int),ts,BF m (Gx x) (Gw m (Gx x)+1),l,(l.length:Int),((i+1:Nat):Int),()))else some (.inr (.inl (10,()))):=by unfold H0;dsimp only;rw[A2,AR9 hi];simp only[A' e,KY,Mf];have a:w64 (Gw m (Gx x)+1)=Gw m (Gx x)+1:=BG (by omega);obtain⟨b,c⟩:=vP m (Gx x) (Gw m (Gx x)) (Gw m (Gx x)+1);unfold Gw Gx at b c a;by_cases d:min x.1 x.2.1<0;rw[BC,AR9 d,ASH (fun q=>by have f:=q.1.2.2.1;have g:=q.2.2.2.1;omega)];rw[BC,AR8 d];by_cases c2:(N:Int)<=max x.1 x.2.1;rw[BM,AR9 c2,ASH (fun q=>by have f:=q.1.2.2.2;have g:=q.2.2.2.2;omega)];rw[BM,AR8 c2,ASL ⟨⟨by omega,by omega,by omega,by omega⟩,⟨by omega,by omega,by omega,by omega⟩⟩];simp only[b,a,c,A5 (show i+1<9223372036854775808 by omega)];rfl
theorem uK{N:Nat}(r:1<=N)(s:N<=64)(ts:List Tie)(l:List Edge)(t:l.length<1073741824):
  (¬ cU N l/\A9 H0 many ((N:Int),ts,([]:WM),l,(l.length:Int),(0:Int),())=some (.inl (10,()))) \/
  (cU N l/\∃ m:WM,(∀ x,Gw m x=0↔x∉l.map Gx)/\A9 H0 many ((N:Int),ts,([]:WM),l,(l.length:Int),(0:Int),())=some (.inr (.inl ((N:Int),ts,m,())))):=by
 have d:∀ (k i:Nat) (m:WM) (cnt:Nat),i+k=l.length->k<cnt->(∀ x,0<=Gw m x/\Gw m x<=(i:Int)/\(Gw m x=0↔x∉(l.take i).map Gx)) ->
   ((∃ x∈l.drop i,¬ (In (N:Int) x.1/\In (N:Int) x.2.1))/\BD H0 cnt ((N:Int),ts,m,l,(l.length:Int),(i:Int),())=some (.inl (10,()))) \/
   ((∀ x∈l.drop i,In (N:Int) x.1/\In (N:Int) x.2.1)/\∃ p:WM,(∀ x,Gw p x=0↔x∉l.map Gx)/\BD H0 cnt ((N:Int),ts,m,l,(l.length:Int),(i:Int),())=some (.inr (.inl ((N:Int),ts,p,())))):=by
  intro k
  induction k with
  |zero=>
   intro i m cnt hi u f
   obtain⟨cnt,rfl⟩:∃ c,cnt=c+1:=⟨cnt-1,by omega⟩
   right
   have:i=l.length:=by omega
   subst this
   refine⟨fun x b=>(by grind),m,fun x => ?_,?_⟩
   ·grind
   ·unfold H0
    rw[BD]
    dsimp only
    rw[A2,AR8 (by omega)]
  |succ k v=>
   intro i m cnt hi u f
   obtain⟨cnt,rfl⟩:∃ c,cnt=c+1:=⟨cnt-1,by omega⟩
   have a:i<l.length:=by omega
   have b:l[i]? = some l[i]:=ASI a
   have g:l.drop i=l[i]::l.drop (i+1):=ASr a
   have j:l.take (i+1)=l.take i++[l[i]]:=ATF a
   rw[g]
   generalize w:l[i]=x at *
   have z:=f (Gx x)
   obtain⟨A,B,_⟩:=z
   rw[BD,uJ r s ts l t m i x a b ⟨A,B⟩]
   by_cases n:In (N:Int) x.1/\In (N:Int) x.2.1
   ·rw[ASL n]
    have o:∀ y,Gw (BF m (Gx x) (Gw m (Gx x)+1)) y=if y=Gx x then Gw m (Gx x)+1 else Gw m y:=by
     intro y
     unfold Gw
     rw[aK]
     grind
    have:=v (i+1) (BF m (Gx x) (Gw m (Gx x)+1)) cnt (by omega) (by omega) (fun y=>by
     rw[o]
     obtain⟨D,E,F⟩:=f y
     rw[j,ASz,ASF]
     by_cases e:y=Gx x
     all_goals grind)
    grind
   grind
 have G:∀ x:Edge,Gw ([]:WM) x=0:=fun _=>rfl;have:=d l.length 0 [] many (by omega) (by simp only[many];omega) (fun x=>by simp_all);rw[List.drop_zero]at this;rw[BR];rcases this with⟨⟨x,b,C⟩,e⟩|⟨h,e⟩
 exact .inl ⟨fun q=>C (q x b),e⟩;exact .inr ⟨h,e⟩
theorem UG{N:Nat}{ts:List Tie}(h:RG2 N ts)(l:List Edge)(s:l.length<1073741824):
  fO (((N:Int),(ts,())),l,())=some (if ∀ e∈l,In (N:Int) e.1/\In (N:Int) e.2.1 then(CK N ts l,0,())else([],10,())):=by
 have F:=h.ht;rw[oN,jX];simp only[h.lr,ASE,A6];rcases uK h.h1 h.hN ts l s with⟨t,e⟩|⟨g,m,u,e⟩
 rw[ASH (show ¬ ∀ e∈l,In (N:Int) e.1/\In (N:Int) e.2.1 from t)];grind
 ·rw[ASL (show ∀ e∈l,In (N:Int) e.1/\In (N:Int) e.2.1 from g)];obtain⟨a,v,w⟩:=AJ6 (ts.map ed) m (by grind);simp only[e,Qq (N:Int) ts h.ht h.lr,v,DA,OU,w];congr 2;have z:((ts.map ed).filter fun x => !ieq (Gw m x) 0)=(ts.map ed).filter fun x=>decide (x∈l.map Gx):=by refine ATn fun x _ => ?_;rw[BB,ATH,ATG,ASg,ASk,u x];simp
  rw[z];have p:((ts.map ed).filter fun x=>decide (x∈l.map Gx)).Pairwise Cw:=h.edP.filter _;have q:=Jo N ts l;have i:∀ x:Edge,x∈((ts.map ed).filter fun x=>decide (x∈l.map Gx))↔x∈CK N ts l:=by
   intro x;unfold CK;rw[ASa,ASa,Fv,ASk,ASk];have r:∀ y:Edge,x=Gx y->x.1<x.2.1->x=y\/x=(y.2.1,y.1,()):=by rintro⟨a,b,⟨⟩⟩ rfl c;unfold Gx at c |-;grind
   constructor;rintro⟨d,f⟩;have c:=h.ARh x d;obtain⟨A,B⟩:=h.inE x d;refine⟨⟨A.2.2.1,c,B.2.2.2,?_⟩,d⟩;obtain⟨y,G,C⟩:=ASS.1 f;unfold Q6;grind;·rintro⟨⟨d,f,H,k⟩,D⟩;refine⟨D,ASS.2 ?_⟩;obtain⟨a,b,⟨⟩⟩:=x;unfold Gx;simp only at f;rcases k with k|k;all_goals grind
  have j:∀ a b:Edge,Cw a b->Cw b a->False:=fun a b d f=>by unfold Cw at *;omega
  have n:((ts.map ed).filter fun x=>decide (x∈l.map Gx)).Nodup:=p.imp fun {a b} E=>by grind
  have o:(CK N ts l).Nodup:=q.imp fun {a b} E=>by grind
  exact ATg (le:=Cw) (fun a b _ _ d f=>(j a b d f).elim) p q ((AT3 n o).2 i)
theorem oK{N:Nat}(h:N<=64)(u v:Nat)(i:u<N)(j:v<N)(top b:Int):
  ∀ (m:Nat) (O:List Tie) (r cnt:Nat),m<=64->O.length<=400->r+1000*m<536870912->m<cnt ->
  BD Hf cnt ((0:Int),false,false,(0:Int),(0:Int),(0:Int),(u:Int),(v:Int),b,true,(N:Int),O,true,false,(0:Int),(0:Int),(r:Int),top,(m:Int)-1,()) =
  some (.inl ((0:Int),false,false,(0:Int),(0:Int),(0:Int),(N:Int),(JH N u v top m O r).1,true,
   (match(JH N u v top m O r).2.1 with|some _=>true|none=>false),(match(JH N u v top m O r).2.1 with|some e=>e.1|none=>0),(match(JH N u v top m O r).2.1 with|some e=>e.2.1|none=>0),((JH N u v top m O r).2.2:Int),top,())):=by
 intro m;induction m with
  |zero=>
   intro O r cnt k f l n;obtain⟨cnt,rfl⟩:∃ c,cnt=c+1:=⟨cnt-1,by omega⟩
   unfold Hf;rw[BD];dsimp only;rw[BM,AR8 (by omega)];rfl
  |succ m o=>
   intro O r cnt k f l n;obtain⟨cnt,rfl⟩:∃ c,cnt=c+1:=⟨cnt-1,by omega⟩
   have p:((m+1:Nat):Int)-1=(m:Int):=by omega
   have d:=AM4 h u v i j top O f true false 0 0 r (by omega) m (by omega) _ rfl;have q:=UO (BV (B9 N O u v m)) top m (O.map (rT (BV (B9 N O u v m)) top m));have s:=zn (BV (B9 N O u v m)) m O;rw[ASZ]at q;rw[p,JH];cases g:(Bw (BV (B9 N O u v m)) top m (O.map (rT (BV (B9 N O u v m)) top m))).2.2 with
    |some e=>
     rw[g]at d;have a:Hf ((0:Int),false,false,(0:Int),(0:Int),(0:Int),(u:Int),(v:Int),b,true,(N:Int),O,true,false,(0:Int),(0:Int),(r:Int),top,(m:Int),())=some (.inr (.inl ((0:Int),false,false,(0:Int),(0:Int),(0:Int),(N:Int),(Bw (BV (B9 N O u v m)) top m (O.map (rT (BV (B9 N O u v m)) top m))).1,true,true,e.1,e.2.1,((r+K3 (BV (B9 N O u v m)) m O+(Bw (BV (B9 N O u v m)) top m (O.map (rT (BV (B9 N O u v m)) top m))).2.1:Nat):Int),top,()))):=by unfold Hf;dsimp only;rw[BM,AR9 (show(0:Int)<=(m:Int) by omega)];grind
     rw[BD,a]
    |none=>
     rw[g]at d;have a:Hf ((0:Int),false,false,(0:Int),(0:Int),(0:Int),(u:Int),(v:Int),b,true,(N:Int),O,true,false,(0:Int),(0:Int),(r:Int),top,(m:Int),())=some (.inl ((0:Int),false,false,(0:Int),(0:Int),(0:Int),(u:Int),(v:Int),b,true,(N:Int),(Bw (BV (B9 N O u v m)) top m (O.map (rT (BV (B9 N O u v m)) top m))).1,true,false,(0:Int),(0:Int),((r+K3 (BV (B9 N O u v m)) m O+(Bw (BV (B9 N O u v m)) top m (O.map (rT (BV (B9 N O u v m)) top m))).2.1:Nat):Int),top,(m:Int)-1,())):=by unfold Hf;dsimp only;rw[BM,AR9 (show(0:Int)<=(m:Int) by omega)];simp only[d,ASf];rw[BG (by omega)]
     rw[BD,a];exact o _ _ cnt (by omega) (by omega) (by omega) (by omega)
theorem oJ{N:Nat}{ts:List Tie}(h:RG2 N ts)(u v:Int):
  (¬ ((0<=u/\u<(N:Int))/\(0<=v/\v<(N:Int)))/\c9 (((N:Int),(ts,())),u,v,())=some ((N:Int),ts,AFZ,10,())) \/
  (((0<=u/\u<(N:Int))/\(0<=v/\v<(N:Int)))/\ts.any (Db u v)=false/\c9 (((N:Int),(ts,())),u,v,())=some ((N:Int),ts,AFZ,6,())) \/
  (((0<=u/\u<(N:Int))/\(0<=v/\v<(N:Int)))/\ts.any (Db u v)=true/\∃ t,ts[ts.findIdx (Db u v)]? = some t /\
   c9 (((N:Int),(ts,())),u,v,())=some ((N:Int),(C3 N ts (ts.findIdx (Db u v)) t).1,AFa t.2.2.2.1 (C3 N ts (ts.findIdx (Db u v)) t).2.1 (C3 N ts (ts.findIdx (Db u v)) t).2.2,0,())):=by
 have L:=h.ht;have i:=h.hN;rw[jR,jS];simp only[Zr h];by_cases c:InV N u/\InV N v;right;rw[ASL c,ASL c];cases A:ts.any (Db u v);left;refine⟨c,rfl,?_⟩;simp only[ASR,ASX,BB];rfl;right;have s:ts.findIdx (Db u v)<ts.length:=AT1.2 (ATZ.1 A);have w:ts[ts.findIdx (Db u v)]? = some ts[ts.findIdx (Db u v)]:=ASI s;refine⟨c,rfl,_,w,?_⟩;have B:ts[ts.findIdx (Db u v)]∈ts:=ASu s;generalize ts[ts.findIdx (Db u v)]=t at *;generalize ts.findIdx (Db u v)=p at *;obtain⟨x,y,C,D,M⟩:=h.tie B;obtain⟨a,k⟩:=ASD x.2.2.1;obtain⟨b,l⟩:=ASD y.2.2.1;obtain⟨j,E⟩:=ASD D;have n:a<N:=by have:=x.2.2.2;omega
 have o:b<N:=by have:=y.2.2.2;omega
 have F:=EG i;have z:=MA i;have G:Dd ts (0:Int) (p:Int)=some (ts.take p):=Tw (by omega);have H:Dd ts ((p+1:Nat):Int) (ts.length:Int)=some (ts.drop (p+1)):=Nf (by omega);have f:TH ([ts.take p,ts.drop (p+1)],())=some (ts.take p++ts.drop (p+1),()):=by rw[rD _ (by simp) (by grind)];simp
 simp only[ASh,Dh,ASE];simp only[A' w,G];rw[A5 (by omega)];simp only[A6,H,f,SV N i,F];unfold C3;cases O:t.2.2.2.1;obtain⟨m,d⟩:∃ m,many=m+1:=⟨many-1,by simp only[many]⟩
 have:A9 Hf many ((0:Int),false,false,(0:Int),(0:Int),(0:Int),t.1,t.2.1,t.2.2.1,false,(N:Int),ts.take p++ts.drop (p+1),false,false,(0:Int),(0:Int),(0:Int),(Bx N:Int),t.2.2.1,()) =
   some (.inl ((0:Int),false,false,(0:Int),(0:Int),(0:Int),(N:Int),ts.take p++ts.drop (p+1),false,false,(0:Int),(0:Int),(0:Int),(Bx N:Int),())):=by
  rw[BR,d,BD,Hf]
 simp only[this];rfl;simp only[ASh];have g:(ts.take p++ts.drop (p+1)).length<=400:=by grind
 have q:=oK i a b n o (Bx N:Int) t.2.2.1 (j+1) (ts.take p++ts.drop (p+1)) 0 many (by omega) g (by omega) (by simp only[many];omega);rw[<- k,<- l,show((j+1:Nat):Int)-1=t.2.2.1 by omega]at q;have I:t.1.toNat=a:=by omega
 have J:t.2.1.toNat=b:=by omega
 have K:t.2.2.1.toNat+1=j+1:=by omega
 rw[I,J,K];rw[<- BR]at q;have r:A9 Hf many ((0:Int),false,false,(0:Int),(0:Int),(0:Int),t.1,t.2.1,t.2.2.1,true,(N:Int),ts.take p++ts.drop (p+1),true,false,(0:Int),(0:Int),(0:Int),(Bx N:Int),t.2.2.1,())=_:=q;simp only[r];cases (JH N a b (Bx N:Int) (j+1) (ts.take p++ts.drop (p+1)) 0).2.1 with
  |some e=>rfl
  |none=>rfl
 left;rw[ASH c,ASH c];refine⟨c,?_⟩;simp only[BB];rfl
theorem AGJ(N u v:Nat)(top:Int):∀ (m:Nat) (O:List Tie) (r:Nat),(JH N u v top m O r).1.length=O.length:=by
 intro m;induction m with
  |zero=>intro O r;rfl
  |succ m b=>intro O r;have a:=UO (BV (B9 N O u v m)) top m (O.map (rT (BV (B9 N O u v m)) top m));rw[ASZ]at a;rw[JH];grind
theorem ADg(N:Nat)(ts:List Tie)(p:Nat)(t:Tie):(C3 N ts p t).1.length<=ts.length:=by unfold C3;split;rw[AGJ,ASN,ASp,ATX];omega;grind
theorem ALx(N u v:Nat)(top:Int):∀ (m:Nat) (O:List Tie) (r:Nat),(JH N u v top m O r).1.map ed=O.map ed:=by
 intro m;induction m with
  |zero=>intro O r;rfl
  |succ m c=>
   intro O r;have a:=oW (BV (B9 N O u v m)) top m (O.map (rT (BV (B9 N O u v m)) top m));have b:(O.map (rT (BV (B9 N O u v m)) top m)).map ed=O.map ed:=by rw[List.map_map];exact ATa fun t _=>by simp only[Function.comp_apply,rT];split<;>rfl
   rw[JH];split;exact a.trans b;exact(c _ _).trans (a.trans b)
theorem AJT(N:Nat)(ts:List Tie)(p:Nat)(t:Tie):(C3 N ts p t).1.map ed=(ts.take p++ts.drop (p+1)).map ed:=by unfold C3;split;exact ALx _ _ _ _ _ _ _;rfl
theorem Zu{N:Nat}{ts:List Tie}(h:RG2 N ts)(l:List Edge)(F:l.length<1073741824)(I:Nat->List Tie->Prop)(G:I 0 ts)
  (H:∀ i x O k t,(CK N ts l)[i]? = some x->RG2 N O->I i O->O.length<=ts.length->O[k]? = some t->ed t=x->O.findIdx (Db x.1 x.2.1)=k->I (i+1) (C3 N O k t).1) :
  ∃ O w e,Wf (((N:Int),(ts,())),l,())=some (((N:Int),(O,())),w,e,())/\O.length<=ts.length/\(e=0->cU N l/\I (CK N ts l).length O):=by
 have P:=h.ht;have s:=UG h l F;rw[oS,jZ];by_cases a:∀ e∈l,In (N:Int) e.1/\In (N:Int) e.2.1;rotate_left;rw[ASH a]at s;simp only[s,BB];exact⟨ts,[],10,rfl,ASG _,fun h=>by omega⟩;rw[ASL a]at s;simp only[s,BB];have J:=La N h.hN ts l;have v:=fun x=>VO (N:=N) (ts:=ts) (l:=l) (x:=x);generalize CK N ts l=xs at *
 have y:∀ (m i cnt:Nat) (O:List Tie) (outs:List (Bool×Bool×Edge×Int×Unit)),i+m=xs.length->m<cnt->O.length<=ts.length->outs.length=i->I i O ->
   (∃ c,c≠0/\BD H3 cnt ((N:Int),ts,(0:Int),outs,(N:Int),O,xs,(xs.length:Int),(i:Int),())=some (.inl ((N:Int),ts,c,()))) \/
   (∃ g o,BD H3 cnt ((N:Int),ts,(0:Int),outs,(N:Int),O,xs,(xs.length:Int),(i:Int),())=some (.inr (.inl ((0:Int),g,(N:Int),o,())))/\o.length<=ts.length/\I xs.length o):=by
  intro m
  induction m with
  |zero=>
   intro i cnt O outs hi K u D j
   obtain⟨cnt,rfl⟩:∃ c,cnt=c+1:=⟨cnt-1,by omega⟩
   refine .inr ⟨outs,O,?_,u,by rw[show xs.length=i by omega];exact j⟩
   rw[BD,H3,A2,AR8 (by omega)]
  |succ m L=>
   intro i cnt O outs hi K u D j
   obtain⟨cnt,rfl⟩:∃ c,cnt=c+1:=⟨cnt-1,by omega⟩
   have d:i<xs.length:=by omega
   have b:xs[i]? = some xs[i]:=ASI d
   have one:(∃ o w c,c≠0/\c9 (((N:Int),(O,())),xs[i].1,xs[i].2.1,())=some ((N:Int),o,w,c,()))\/∃ k t w,c9 (((N:Int),(O,())),xs[i].1,xs[i].2.1,())=some ((N:Int),(C3 N O k t).1,w,0,())/\(C3 N O k t).1.length<=ts.length/\I (i+1) (C3 N O k t).1:=by
    rcases UC (N:Int) O (by omega)with⟨_,r⟩|⟨Q,e,E⟩
    ·refine .inl ⟨O,AFZ,1,by omega,?_⟩
     rw[jR,jS]
     simp only[Zs _ _ r,BB]
     rfl
    ·have e:=Int.ofNat.inj e
     subst e
     rcases oJ E xs[i].1 xs[i].2.1 with⟨_,e⟩|⟨_,_,e⟩|⟨_,q,t,z,e⟩
     ·exact .inl ⟨_,_,_,by omega,e⟩
     ·exact .inl ⟨_,_,_,by omega,e⟩
     ·refine .inr ⟨_,t,_,e,ASs (ADg _ _ _ _) u,H i xs[i] O _ t b E j u z ?_ rfl⟩
      have R:=v xs[i] (ASu d)
      have A:=(ASM.1 z).1
      have f:Db xs[i].1 xs[i].2.1 t=true:=by
       have:=List.findIdx_getElem (w:=A)
       rw[(ASM.1 z).2]at this
       exact this
      unfold Db at f
      rw[ASk,AUK (by omega),AUW (by omega)]at f
      unfold ed
      rw[f.1,f.2]
   rcases one with⟨o,w,c,p,B⟩|⟨k,t,w,B,M,C⟩
   ·refine .inl ⟨c,p,?_⟩
    rw[BD,H3,A2,AR9 d]
    simp only[A' b,Bm b,B,BB,AR8 p]
    rw[CC (by simp only[A6,ASK,ASV];omega)]
    rfl
   ·have:=L (i+1) cnt (C3 N O k t).1 (outs++[w]) (by omega) (by omega) M (by simp[D]) C
    rw[BD,H3,A2,AR9 d]
    simp only[A' b,Bm b,B,BB,ASU,ASE]
    rw[CC (by simp only[A6,ASK,ASV];omega),A5 (by omega)]
    exact this
 rcases y xs.length 0 many ts [] (by omega) (by simp only[many];omega) (ASG _) rfl G with⟨c,c0,k1⟩|⟨outs,O,k1,k3,k4⟩
 have n:A9 H3 many ((N:Int),ts,(0:Int),[],(N:Int),ts,xs,A4 xs,(0:Int),())=_:=(BR _ _ _).trans k1;simp only[n];exact⟨ts,[],c,rfl,ASG _,fun h=>absurd h c0⟩;have n:A9 H3 many ((N:Int),ts,(0:Int),[],(N:Int),ts,xs,A4 xs,(0:Int),())=_:=(BR _ _ _).trans k1;simp only[n];exact⟨O,outs,0,rfl,k3,fun _=>⟨a,k4⟩⟩
theorem aw{N:Nat}{O:List Tie}(g:RG2 N O){k:Nat}{t:Tie}(d:O[k]? = some t):(C3 N O k t).1.map ed=(O.map ed).filter fun e=>decide (e≠ed t):=by
 have b:=(ASM.1 d).1;have a:O=O.take k++t::O.drop (k+1):=by have c:O[k]=t:=(ASM.1 d).2;conv=>lhs;rw[<- AS8 k O,ASr b,c]
 have f:=g.edP;rw[a,ASz,ASQ]at f;rw[AJT,ASz,AD8 f];congr 1;conv=>rhs;rw[a]
 rw[ASz,ASQ]
theorem oT{N:Nat}{ts:List Tie}(h:RG2 N ts)(l:List Edge)(f:l.length<1073741824):
  ∃ O w e,Wf (((N:Int),(ts,())),l,())=some (((N:Int),(O,())),w,e,())/\O.length<=ts.length/\(e=0->cU N l/\O.map ed=(ts.map ed).filter (fun e=>decide (e∉CK N ts l))):=by
 obtain⟨O,w,e,g,j,b⟩:=Zu h l f (fun i O=>O.map ed=(ts.map ed).filter (fun e=>decide (e∉(CK N ts l).take i)))
  (by
   rw[AUl]
   refine(ATK.2 fun e _ => ?_).symm
   simp)
  (fun i x O k t c m n r o p _=>by
   have hi:=(ASM.1 c).1
   have a:(CK N ts l).take (i+1)=(CK N ts l).take i++[x]:=by
    rw[ATc,c];rfl
   rw[aw m o,n,AUc]
   refine ATn fun e _ => ?_
   rw[a,ATH]
   simp only[ASB,ASC,ASF,ASj,not_or]
   rw[p]
   exact⟨fun q=>⟨q.2,q.1⟩,fun q=>⟨q.2,q.1⟩⟩)
 refine⟨O,w,e,g,j,fun d=>⟨(b d).1,?_⟩⟩;have:=(b d).2;rwa [AS4 (ASG _)]at this
structure Tsk where
 lo:Nat
 hi:Nat
 up:Option Nat
 wait:Nat
theorem XA{l:List Nat}(b:l.Nodup){a:Nat}(c:a∈l){Q Q':Nat->Bool}(h:∀ j∈l,j≠a->Q' j=Q j):
  l.countP Q'+(Q a).toNat=l.countP Q+(Q' a).toNat:=by
 induction l with
  |nil=>cases c
  |cons x l f=>
   rw[ATD]at b;rw[AT6,AT6];by_cases d:x=a;subst d;have:l.countP Q'=l.countP Q:=by refine AUN fun j e => ?_;grind
   grind;grind
def MO(ts:List Tsk)(A:List Nat)(j:Nat):Bool:=A.contains j||match ts[j]? with
 |some t=>decide (0<t.wait)
 |none=>false
def KC(ts:List Tsk)(A:List Nat)(i j:Nat):Bool:=match ts[j]? with
 |some t=>decide (t.up=some i)&&MO ts A j
 |none=>false
def kids(ts:List Tsk)(A:List Nat)(i:Nat):Nat:=(List.range ts.length).countP (KC ts A i)
structure Tr(n:Nat)(ts:List Tsk)(A:List Nat)(u:Option Nat):Prop where
 tree:∀ (i:Nat) (t:Tsk),ts[i]? = some t->t.lo<t.hi/\t.hi<=n/\t.wait<=2/\(t.up=none->i=0)/\∀ x,t.up=some x->x<i
 nod:A.Nodup
 act:∀ a∈A,∃ t:Tsk,ts[a]? = some t/\t.wait=0
 leaf:∀ a∈A,∀ (j:Nat) (t:Tsk),ts[j]? = some t->t.up≠some a
 cnt:∀ (i:Nat) (t:Tsk),ts[i]? = some t->t.wait=kids ts A i+(if u=some i then 1 else 0)
theorem LL{ts:List Tsk}{A:List Nat}{j:Nat}{t:Tsk}(h:ts[j]? = some t):MO ts A j=true↔j∈A\/0<t.wait:=by unfold MO;grind
theorem OA{ts:List Tsk}{A:List Nat}{i:Nat}:0<kids ts A i↔∃ (j:Nat) (t:Tsk),ts[j]? = some t/\t.up=some i/\MO ts A j=true:=by unfold kids;rw[List.countP_pos_iff];constructor;rintro⟨j,_,h⟩;unfold KC at h;grind;rintro⟨j,t,a,b,c⟩;refine⟨j,ASb.2 (ASM.1 a).1,?_⟩;unfold KC;grind
theorem Tr.descend{n:Nat}{ts:List Tsk}{A:List Nat}(h:Tr n ts A none):∀ (k i:Nat),ts.length-i<=k->∀ t:Tsk,ts[i]? = some t->MO ts A i=true->A≠[]:=by
 intro k;induction k with
  |zero=>grind
  |succ k g=>intro i l t b c;rcases(LL b).1 c with a|a;grind;rw[h.cnt i t b]at a;simp at a;obtain⟨j,t',d,e,m⟩:=OA.1 a;have f:=(h.tree j t' d).2.2.2.2 i e;grind
theorem Tr.AQ2{n:Nat}{ts:List Tsk}{A:List Nat}(h:Tr n ts A none):∀ (i:Nat) (t:Tsk),ts[i]? = some t->MO ts A i=true->MO ts A 0=true:=by
 intro i;induction i using Nat.strongRecOn with
  |ind i d=>
   intro t b e;cases c:t.up with
    |none=>have:=(h.tree i t b).2.2.2.1 c;grind
    |some x=>have f:=(h.tree i t b).2.2.2.2 x c;have g:=(ASM.1 b).1;have a:ts[x]? = some (ts[x]'(by omega)):=ASI (by omega);refine d x f _ a ((LL a).2 (.inr ?_));rw[h.cnt x _ a];have:=OA.2 ⟨i,t,b,c,e⟩;omega
def fin:Nat->List Tsk->Option Nat->List Tsk×Bool
 |_,ts,none=>(ts,true)
 |0,ts,some _=>(ts,false)
 |k+1,ts,some x=>match ts[x]? with
  |none=>(ts,false)
  |some t=>if t.wait=0 then(ts,false)else if 0<t.wait-1 then(ts.set x { t with wait:=t.wait-1 },false)else fin k (ts.set x { t with wait:=t.wait-1 }) t.up
def Alike(ts a:List Tsk):Prop:=a.length=ts.length/\∀ (i:Nat) (t:Tsk),ts[i]? = some t->∃ t':Tsk,a[i]? = some t'/\t'.lo=t.lo/\t'.hi=t.hi/\t'.up=t.up
theorem Alike.refl(ts:List Tsk):Alike ts ts:=⟨rfl,fun _ t h=>⟨t,h,rfl,rfl,rfl⟩⟩
theorem Alike.trans{a b c:List Tsk}(h:Alike a b)(k:Alike b c):Alike a c:=
 ⟨k.1.trans h.1,fun i t d=>by obtain⟨t',e,g,j,l⟩:=h.2 i t d;obtain⟨f,m,n,o,p⟩:=k.2 i t' e;grind⟩
theorem Sw{α:Type}{l:List α}{x i:Nat}{a t:α}(h:(l.set x a)[i]? = some t):(i=x/\t=a/\x<l.length)\/(i≠x/\l[i]? = some t):=by grind
theorem ZC{α:Type}{l:List α}{x:Nat}{a b:α}(h:l[x]? = some b):(l.set x a)[x]? = some a:=by grind
theorem AMK{α:Type}{l:List α}{x i:Nat}{a:α}(h:i≠x):(l.set x a)[i]? = l[i]? := by grind
theorem WI{ts:List Tsk}{x:Nat}{t:Tsk}(h:ts[x]? = some t)(w:Nat):Alike ts (ts.set x { t with wait:=w }):=by refine⟨by simp,fun i s a => ?_⟩;grind
theorem AIo{ts:List Tsk}{A:List Nat}{x:Nat}{t:Tsk}(h:ts[x]? = some t)(w:Nat)(i j:Nat)(a:j≠x):KC (ts.set x { t with wait:=w }) A i j=KC ts A i j:=by unfold KC MO;grind
theorem X_{ts:List Tsk}{A:List Nat}{x:Nat}{t:Tsk}(h:ts[x]? = some t)(i:Nat):KC ts A i x=(decide (t.up=some i)&&(A.contains x||decide (0<t.wait))):=by unfold KC MO;rw[h]
theorem AIn{ts:List Tsk}{A:List Nat}{x:Nat}{t:Tsk}(h:ts[x]? = some t)(w i:Nat):
  kids (ts.set x { t with wait:=w }) A i+(decide (t.up=some i)&&(A.contains x||decide (0<t.wait))).toNat=kids ts A i+(decide (t.up=some i)&&(A.contains x||decide (0<w))).toNat:=by unfold kids;rw[ATp];have:=XA (l:=List.range ts.length) ATY (ASb.2 (ASM.1 h).1) (Q:=KC ts A i) (Q':=KC (ts.set x { t with wait:=w }) A i) (fun j _ a=>AIo h w i j a);rw[X_ h,X_ (ZC h)]at this;omega
theorem AQm{n:Nat}:∀ (k:Nat) (ts:List Tsk) (A:List Nat) (u:Option Nat),Tr n ts A u->(∀ x,u=some x->x<k/\x<ts.length/\x∉A)->(u=none->MO ts A 0=false) ->
  ∃ d,fin k ts u=(d,A.isEmpty)/\Tr n d A none/\Alike ts d:=by
 have D:∀ {ts:List Tsk} {A:List Nat},Tr n ts A none->MO ts A 0=false->A.isEmpty=true:=by
  intro ts A h M;cases A with
   |nil=>rfl
   |cons a A=>obtain⟨t,o,_⟩:=h.act a (by simp);have:=h.AQ2 a t o ((LL o).2 (.inl (by simp)));grind
 intro k;induction k with
  |zero=>
   intro ts A u h C o;cases u with
    |some x=>grind
    |none=>exact⟨ts,by unfold fin;grind,h,Alike.refl ts⟩
  |succ k E=>
   intro ts A u h C o;cases u with
    |none=>exact⟨ts,by unfold fin;grind,h,Alike.refl ts⟩
    |some x=>
     obtain⟨N,F,O⟩:=C x rfl;have c:ts[x]? = some (ts[x]):=ASI F;generalize ts[x]=t at c;have G:=h.cnt x t c;rw[ASL rfl]at G;have m:A.contains x=false:=by grind
     have v:=fun i=>AIn (A:=A) c (t.wait-1) i;have w:=h.tree x t c;have e:∀ (i:Nat) (s:Tsk),(ts.set x { t with wait:=t.wait-1 })[i]? = some s->s.lo<s.hi/\s.hi<=n/\s.wait<=2/\(s.up=none->i=0)/\∀ x,s.up=some x->x<i:=by
      intro i s b;rcases Sw b with⟨rfl,rfl,_⟩|⟨_,b⟩
      grind;exact h.tree i s b
     have g:∀ a∈A,∃ s:Tsk,(ts.set x { t with wait:=t.wait-1 })[a]? = some s/\s.wait=0:=fun a p=>by rw[AMK (by grind)];exact h.act a p
     have f:∀ a∈A,∀ (j:Nat) (s:Tsk),(ts.set x { t with wait:=t.wait-1 })[j]? = some s->s.up≠some a:=by
      intro a p j s b;rcases Sw b with⟨rfl,rfl,_⟩|⟨_,b⟩
      exact h.leaf a p j t c;exact h.leaf a p j s b
     by_cases q:0<t.wait-1;have l:∀ i,kids (ts.set x { t with wait:=t.wait-1 }) A i=kids ts A i:=fun i=>by have:=v i;rw[m,AR9 q,AR9 (show 0<t.wait by omega)]at this;omega
     have r:Tr n (ts.set x { t with wait:=t.wait-1 }) A none:=⟨e,h.nod,g,f,fun i s b=>by
      rw[l];rcases Sw b with⟨rfl,rfl,_⟩|⟨z,b⟩
      grind;rw[h.cnt i s b,ASH (by grind)];simp⟩
     refine⟨_,?_,r,WI c _⟩;unfold fin;rw[c];simp only;rw[ASH (by omega),ASL q];have:A≠[]:=r.descend _ x (ASG _) _ (ZC c) ((LL (ZC c)).2 (.inr q));grind
     ·have H:t.wait=1:=by omega
      have B:∀ i,kids (ts.set x { t with wait:=t.wait-1 }) A i+(decide (t.up=some i)).toNat=kids ts A i:=fun i=>by grind
      have r:Tr n (ts.set x { t with wait:=t.wait-1 }) A t.up:=⟨e,h.nod,g,f,fun i s b=>by
       have P:=B i;rcases Sw b with⟨rfl,rfl,_⟩|⟨z,b⟩
       grind;·rw[h.cnt i s b,ASH (by grind)];by_cases Q:t.up=some i;all_goals grind⟩
      obtain⟨d,I,J,K⟩:=E _ A t.up r (fun y R=>by
       grind) (fun L=>by
       have:=w.2.2.2.1 L;subst this;have:¬ MO (ts.set 0 { t with wait:=t.wait-1 }) A 0=true:=by rw[LL (ZC c)];grind
       grind)
      refine⟨d,?_,J,(WI c _).trans K⟩;unfold fin;rw[c];simp only;rw[ASH (by omega),ASH q,I]
theorem Tr.part{n:Nat}{ts:List Tsk}{a:Nat}{A:List Nat}(h:Tr n ts (a::A) none){t:Tsk}(m:ts[a]? = some t){Bz:Nat}(H:t.lo<Bz)(I:Bz<t.hi):
  Tr n (ts.set a { t with wait:=2 }++[⟨t.lo,Bz,some a,0⟩,⟨Bz,t.hi,some a,0⟩]) (ts.length::(ts.length+1)::A) none:=by
 have z:=(ASM.1 m).1;have f:=h.nod;rw[ATD]at f;have B:∀ x∈A,x<ts.length:=fun x c=>by obtain⟨s,d,_⟩:=h.act x (by simp[c]);grind
 have b:∀ {i:Nat} {s:Tsk},(ts.set a { t with wait:=2 }++[⟨t.lo,Bz,some a,0⟩,⟨Bz,t.hi,some a,0⟩])[i]? = some s ->
   (i=a/\s = { t with wait:=2 })\/(i≠a/\i<ts.length/\ts[i]? = some s)\/(i=ts.length/\s=⟨t.lo,Bz,some a,0⟩)\/(i=ts.length+1/\s=⟨Bz,t.hi,some a,0⟩):=by
  grind
 have r:=h.tree a t m;have g:∀ {i:Nat} {s:Tsk},i≠a->ts[i]? = some s->(ts.set a { t with wait:=2 }++[⟨t.lo,Bz,some a,0⟩,⟨Bz,t.hi,some a,0⟩])[i]? = some s:=by grind
 have w:(ts.set a { t with wait:=2 }++[⟨t.lo,Bz,some a,0⟩,⟨Bz,t.hi,some a,0⟩])[a]? = some { t with wait:=2 }:=by grind
 have C:(ts.set a { t with wait:=2 }++[⟨t.lo,Bz,some a,0⟩,⟨Bz,t.hi,some a,0⟩])[ts.length]? = some ⟨t.lo,Bz,some a,0⟩:=by simp
 have D:(ts.set a { t with wait:=2 }++[⟨t.lo,Bz,some a,0⟩,⟨Bz,t.hi,some a,0⟩])[ts.length+1]? = some ⟨Bz,t.hi,some a,0⟩:=by simp
 refine⟨?_,?_,?_,?_,?_⟩
 ·intro i s d;rcases b d with⟨rfl,rfl⟩|⟨_,_,d⟩|⟨rfl,rfl⟩|⟨rfl,rfl⟩
  grind;exact h.tree i s d;all_goals grind
 grind;intro x c;simp only[ASW]at c;rcases c with rfl|rfl|c;simp;simp;obtain⟨s,d,J⟩:=h.act x (by simp[c]);grind
 ·intro x c j s d;simp only[ASW]at c;have E:x≠a:=by grind
  rcases b d with⟨rfl,rfl⟩|⟨_,o,d⟩|⟨rfl,rfl⟩|⟨rfl,rfl⟩
  show t.up≠some x;intro e;have:=r.2.2.2.2 x e;rcases c with rfl|rfl|c;omega;omega;exact h.leaf x (by simp[c]) j t m e;intro e;have:=(h.tree j s d).2.2.2.2 x e;rcases c with rfl|rfl|c;omega;omega;exact h.leaf x (by simp[c]) j s d e;all_goals grind
 intro i s d;have F:kids (ts.set a { t with wait:=2 }++[⟨t.lo,Bz,some a,0⟩,⟨Bz,t.hi,some a,0⟩]) (ts.length::(ts.length+1)::A) i=kids ts (a::A) i+if i=a then 2 else 0:=by
  unfold kids;rw[ASN,ATp];show(List.range (ts.length+2)).countP _=_;rw[ASi,ASi,List.countP_append,List.countP_append];have y:(List.range ts.length).countP (KC (ts.set a { t with wait:=2 }++[⟨t.lo,Bz,some a,0⟩,⟨Bz,t.hi,some a,0⟩]) (ts.length::(ts.length+1)::A) i)=(List.range ts.length).countP (KC ts (a::A) i):=by
   refine AUN fun j o => ?_;rw[ASb]at o;by_cases k:j=a;subst k;unfold KC MO;grind;have l:ts[j]? = some ts[j]:=ASI o;unfold KC MO;rw[g k l,l];have p:¬ j=ts.length:=by omega
   have q:¬ j=ts.length+1:=by omega
   grind
  rw[y];have G:KC (ts.set a { t with wait:=2 }++[⟨t.lo,Bz,some a,0⟩,⟨Bz,t.hi,some a,0⟩]) (ts.length::(ts.length+1)::A) i ts.length=decide (i=a):=by unfold KC MO;grind
  have K:KC (ts.set a { t with wait:=2 }++[⟨t.lo,Bz,some a,0⟩,⟨Bz,t.hi,some a,0⟩]) (ts.length::(ts.length+1)::A) i (ts.length+1)=decide (i=a):=by unfold KC MO;grind
  grind
 rw[F];rcases b d with⟨rfl,rfl⟩|⟨u,o,d⟩|⟨rfl,rfl⟩|⟨rfl,rfl⟩
 have:=h.cnt i t m;obtain⟨t',y,G⟩:=h.act i (by simp);grind;rw[ASH u];exact h.cnt i s d;rw[ASH (by omega)];have:kids ts (a::A) ts.length=0:=by refine Nat.eq_zero_of_not_pos fun v => ?_;obtain⟨j,s,p,q,_⟩:=OA.1 v;have:=(h.tree j s p).2.2.2.2 _ q;grind
 grind;rw[ASH (by omega)];have:kids ts (a::A) (ts.length+1)=0:=by refine Nat.eq_zero_of_not_pos fun v => ?_;obtain⟨j,s,p,q,_⟩:=OA.1 v;have:=(h.tree j s p).2.2.2.2 _ q;grind
 grind
theorem ADK{ts:List Tsk}{A B:List Nat}(h:A.Perm B)(i:Nat):kids ts A i=kids ts B i:=by unfold kids;refine AUN fun j _ => ?_;unfold KC MO;grind
theorem Tr.perm{n:Nat}{ts:List Tsk}{A B:List Nat}(h:Tr n ts A none)(b:A.Perm B):Tr n ts B none:=
 ⟨h.tree,b.nodup_iff.1 h.nod,fun a c=>h.act a (b.mem_iff.2 c),fun a c=>h.leaf a (b.mem_iff.2 c),fun i t d=>by rw[<- ADK b];exact h.cnt i t d⟩
theorem Tr.did{n:Nat}{ts:List Tsk}{a:Nat}{A:List Nat}(h:Tr n ts (a::A) none){t:Tsk}(c:ts[a]? = some t):
  ∃ d,fin ts.length ts t.up=(d,A.isEmpty)/\Tr n d A none/\Alike ts d:=by
 have b:=h.nod;rw[ATD]at b;have g:=(ASM.1 c).1;obtain⟨t',k,m⟩:=h.act a (by simp);rw[c]at k;cases k;have f:=h.tree a t c;have o:∀ i,kids ts A i+(decide (t.up=some i)).toNat=kids ts (a::A) i:=by
  intro i;unfold kids;have:=XA (l:=List.range ts.length) ATY (ASb.2 g) (Q:=KC ts (a::A) i) (Q':=KC ts A i) (fun j _ u=>by unfold KC MO;grind)
  rw[X_ c,X_ c,m]at this;grind
 refine AQm ts.length ts A t.up ⟨h.tree,b.2,fun x e=>h.act x (by simp[e]),fun x e=>h.leaf x (by simp[e]),fun i s p => ?_⟩ (fun x e => ?_) (fun q => ?_);have v:=o i;have w:=h.cnt i s p;grind;have:=f.2.2.2.2 x e;exact⟨by omega,by omega,fun r=>h.leaf x (by grind) a t c e⟩;have:=f.2.2.2.1 q;subst this;have:¬ MO ts A 0=true:=by rw[LL c];grind
 grind
def rng(ts:List Tsk)(a:Nat):List Nat:=match ts[a]? with
 |some t=>List.range' t.lo (t.hi-t.lo)
 |none=>[]
def tkN(g n:Nat):Nat:=if n<=g\/n<=1 then 1 else tkN g (n/2)+tkN g (n-n/2)+1
termination_by n
decreasing_by all_goals omega
theorem ALu(g n:Nat):1<=tkN g n:=by rw[tkN];split<;>omega
theorem APj(g:Nat):∀ n:Nat,1<=n->tkN g n<=2*n-1:=by
 intro n;induction n using Nat.strongRecOn with
  |_ n a=>intro b;rw[tkN];split;omega;rename_i h;have c:=a (n/2) (by omega) (by omega);have d:=a (n-n/2) (by omega) (by omega);omega
theorem iV:∀ n:Nat,1<=n->tkN 1 n=2*n-1:=by
 intro n;induction n using Nat.strongRecOn with
  |_ n a=>intro b;rw[tkN];split;omega;rename_i h;rw[a (n/2) (by omega) (by omega),a (n-n/2) (by omega) (by omega)];omega
theorem AF1{g n:Nat}(a:1<=g)(h:g<n):tkN g (n/2)+tkN g (n-n/2)<tkN g n:=by
 conv=>rhs;rw[tkN]
 rw[ASH (by omega)];omega
def Pg(g:Nat)(ts:List Tsk)(a:Nat):Nat:=match ts[a]? with
 |some t=>tkN g (t.hi-t.lo)
 |none=>0
def pot(g:Nat)(ts:List Tsk)(A:List Nat):Nat:=(A.map (Pg g ts)).sum
def Pv(a:List Bool)(b:Nat):Nat->List Bool
 |0=>a
 |k+1=>(Pv a b k).set (b+k) true
theorem AC4(a:List Bool)(b k:Nat):(Pv a b k).length=a.length:=by
 induction k with
  |zero=>rfl
  |succ k c=>unfold Pv;grind
theorem AC5(b:List Bool)(a k u:Nat)(c:u<b.length):(Pv b a k)[u]? = some (decide (a<=u/\u<a+k)||b[u]):=by
 induction k with
  |zero=>
   have:¬ (a<=u/\u<a+0):=by omega
   rw[AR8 this];exact ASI c
  |succ k d=>unfold Pv;rw[AUP];by_cases h:a+k=u;rw[ASL h,ASL (by grind),AR9 (by omega)];rfl;rw[ASH h,d];congr 2;grind
structure Iv(n:Nat)(ts:List Tsk)(dn:List Bool)(A U:List Nat)(D:Nat):Prop where
 len:dn.length=n
 tr:Tr n ts A none
 units:(A.flatMap (rng ts)++U).Perm (List.range n)
 dn:∀ u,u<n->dn[u]? = some (decide (u∈U))
 size:ts.length+1=2*(A.length+D)
 dle:D<=U.length
theorem ko{α β:Type}{l a:List α}(h:l.Perm a)(f:α->List β):(l.flatMap f).Perm (a.flatMap f):=by
 induction h with
  |nil=>simp
  |cons x _ b=>rw[ATT,ATT];exact b.append_left _
  |swap x y l=>simp only[ATT,<- ATo];exact List.perm_append_comm.append_right _
  |trans _ _ c d=>exact c.trans d
theorem Iv.perm{n:Nat}{ts:List Tsk}{b:List Bool}{A B U:List Nat}{D:Nat}(h:Iv n ts b A U D)(a:A.Perm B):Iv n ts b B U D:=
 ⟨h.len,h.tr.perm a,((ko a.symm _).append_right _).trans h.units,h.dn,by rw[<- a.length_eq];exact h.size,h.dle⟩
theorem Zl{g:Nat}{ts:List Tsk}{A B:List Nat}(a:A.Perm B):pot g ts A=pot g ts B:=(a.map _).sum_nat
theorem LH{ts b:List Tsk}(h:Alike ts b){a:Nat}(c:a<ts.length):rng b a=rng ts a/\∀ g,Pg g b a=Pg g ts a:=by have d:ts[a]? = some ts[a]:=ASI c;obtain⟨t',e,f,i,_⟩:=h.2 a _ d;unfold rng Pg;grind
theorem Iv.lt{n:Nat}{ts:List Tsk}{b:List Bool}{A U:List Nat}{D:Nat}(h:Iv n ts b A U D){a:Nat}(c:a∈A):a<ts.length:=by obtain⟨t,d,_⟩:=h.tr.act a c;grind
theorem Jp{α β:Type}{l:List α}{f g:α->List β}(h:∀ x∈l,f x=g x):l.flatMap f=l.flatMap g:=by
 induction l with
  |nil=>rfl
  |cons x l a=>grind
theorem jM{a Bz hi:Nat}(b:a<=Bz)(c:Bz<=hi):List.range' a (Bz-a)++List.range' Bz (hi-Bz)=List.range' a (hi-a):=by have:=List.range'_append_1 (s:=a) (m:=Bz-a) (n:=hi-Bz);grind
theorem Iv.part{g n:Nat}{ts:List Tsk}{i:List Bool}{a:Nat}{A U:List Nat}{D:Nat}(h:Iv n ts i (a::A) U D){t:Tsk}(f:ts[a]? = some t){Bz:Nat}(o:t.lo<Bz)(p:Bz<t.hi)(r:tkN g (Bz-t.lo)+tkN g (t.hi-Bz)<tkN g (t.hi-t.lo)):
  Iv n (ts.set a { t with wait:=2 }++[⟨t.lo,Bz,some a,0⟩,⟨Bz,t.hi,some a,0⟩]) i (ts.length::(ts.length+1)::A) U D /\
  pot g (ts.set a { t with wait:=2 }++[⟨t.lo,Bz,some a,0⟩,⟨Bz,t.hi,some a,0⟩]) (ts.length::(ts.length+1)::A)<pot g ts (a::A) /\
  ∀ x,x<ts.length->rng (ts.set a { t with wait:=2 }++[⟨t.lo,Bz,some a,0⟩,⟨Bz,t.hi,some a,0⟩]) x=rng ts x:=by
 have b:∀ x,x<ts.length->rng (ts.set a { t with wait:=2 }++[⟨t.lo,Bz,some a,0⟩,⟨Bz,t.hi,some a,0⟩]) x=rng ts x/\Pg g (ts.set a { t with wait:=2 }++[⟨t.lo,Bz,some a,0⟩,⟨Bz,t.hi,some a,0⟩]) x=Pg g ts x:=by intro x c;have j:=LH (WI f 2) c;rw[<- j.1,<- j.2 g];unfold rng Pg;grind
 have d:(ts.set a { t with wait:=2 }++[⟨t.lo,Bz,some a,0⟩,⟨Bz,t.hi,some a,0⟩])[ts.length]? = some ⟨t.lo,Bz,some a,0⟩:=by simp
 have e:(ts.set a { t with wait:=2 }++[⟨t.lo,Bz,some a,0⟩,⟨Bz,t.hi,some a,0⟩])[ts.length+1]? = some ⟨Bz,t.hi,some a,0⟩:=by simp
 have k:∀ x∈A,x<ts.length:=fun x c=>h.lt (by simp[c]);refine⟨⟨h.len,h.tr.part f o p,?_,h.dn,?_,h.dle⟩,?_,fun x c=>(b x c).1⟩;rw[ATT,ATT,Jp fun x c=>(b x (k x c)).1];have l:rng (ts.set a { t with wait:=2 }++[⟨t.lo,Bz,some a,0⟩,⟨Bz,t.hi,some a,0⟩]) ts.length=List.range' t.lo (Bz-t.lo):=by unfold rng;rw[d]
 have m:rng (ts.set a { t with wait:=2 }++[⟨t.lo,Bz,some a,0⟩,⟨Bz,t.hi,some a,0⟩]) (ts.length+1)=List.range' Bz (t.hi-Bz):=by unfold rng;rw[e]
 rw[l,m,<- ATo,jM (by omega) (by omega)];have:=h.units;rw[ATT]at this;have q:rng ts a=List.range' t.lo (t.hi-t.lo):=by unfold rng;rw[f]
 grind;have:=h.size;grind;unfold pot;rw[ASQ,ASQ,ASQ,ATx,ATx,ATx,ATa fun x c=>(b x (k x c)).2];have l:Pg g (ts.set a { t with wait:=2 }++[⟨t.lo,Bz,some a,0⟩,⟨Bz,t.hi,some a,0⟩]) ts.length=tkN g (Bz-t.lo):=by unfold Pg;rw[d]
 have m:Pg g (ts.set a { t with wait:=2 }++[⟨t.lo,Bz,some a,0⟩,⟨Bz,t.hi,some a,0⟩]) (ts.length+1)=tkN g (t.hi-Bz):=by unfold Pg;rw[e]
 have q:Pg g ts a=tkN g (t.hi-t.lo):=by unfold Pg;rw[f]
 omega
theorem Iv.did(g:Nat){n:Nat}{ts:List Tsk}{f:List Bool}{a:Nat}{A U:List Nat}{D:Nat}(h:Iv n ts f (a::A) U D){t:Tsk}(d:ts[a]? = some t):
  ∃ b,fin ts.length ts t.up=(b,A.isEmpty)/\Iv n b (Pv f t.lo (t.hi-t.lo)) A (U++rng ts a) (D+1)/\pot g b A<pot g ts (a::A)/\Alike ts b:=by
 obtain⟨b,k,l,e⟩:=h.tr.did d;have i:∀ x∈A,x<ts.length:=fun x c=>h.lt (by simp[c]);have m:=h.tr.tree a t d;have o:rng ts a=List.range' t.lo (t.hi-t.lo):=by unfold rng;rw[d]
 refine⟨b,k,⟨by rw[AC4];exact h.len,l,?_,?_,?_,?_⟩,?_,e⟩;rw[Jp fun x c=>(LH e (i x c)).1];refine List.Perm.trans ?_ h.units;grind;intro u j;rw[AC5 _ _ _ _ (by rw[h.len];exact j)];have p:=h.dn u j;grind;rw[e.1];have:=h.size;grind;rw[ASN,o,List.length_range'];have:=h.dle;omega;unfold pot;rw[ASQ,ATx,ATa fun x c=>(LH e (i x c)).2 g];have:Pg g ts a=tkN g (t.hi-t.lo):=by unfold Pg;rw[d]
 have:=ALu g (t.hi-t.lo);omega
theorem Iv.bound{n:Nat}{ts:List Tsk}{c:List Bool}{A U:List Nat}{D:Nat}(h:Iv n ts c A U D):A.length+D<=n:=by
 have b:=h.units.length_eq;rw[ASN,ASP]at b;have f:A.length<=(A.flatMap (rng ts)).length:=by
  have g:∀ x∈A,0<(rng ts x).length:=fun x d=>by obtain⟨t,e,_⟩:=h.tr.act x d;have:=(h.tr.tree x t e).1;unfold rng;grind
  clear b h;induction A with
   |nil=>simp
   |cons a A i=>grind
 have:=h.dle;omega
theorem Iv.AQw{n:Nat}{ts:List Tsk}{c:List Bool}{a:Nat}{A U:List Nat}{D:Nat}(h:Iv n ts c (a::A) U D){t:Tsk}(d:ts[a]? = some t){Bz:Nat}(e:t.lo<Bz)(f:Bz<t.hi):ts.length+2+1<=2*n:=by have b:=(h.part (g:=1) d e f (by rw[iV _ (by omega),iV _ (by omega),iV _ (by omega)];omega)).1;have:=b.bound;have i:=b.size;grind
theorem Iv.APg{n:Nat}{ts:List Tsk}{c:List Bool}{A U:List Nat}{D:Nat}(h:Iv n ts c A U D){a:Nat}(d:a∈A){t:Tsk}(e:ts[a]? = some t):c[t.lo]? = some false:=by have f:=h.tr.tree a t e;rw[h.dn t.lo (by omega)];congr 1;rw[ASg];intro g;have b:=(h.units.nodup_iff).2 ATY;rw[AU7]at b;refine b.2.2 t.lo (AT5.2 ⟨a,d,?_⟩) t.lo g rfl;unfold rng;grind
structure Crw where
 ts:List Tsk
 dn:List Bool
 ds:List (List Nat)
 ov:Bool
 st:Nat
 idl:Nat
structure Evt where
 w:Nat
 ft:Option (Nat×Nat)
 pt:Bool
def found(ds:List (List Nat))(p v:Nat):Option (Nat×Nat×List (List Nat)):=
 match(ds.getD p []).getLast? with
 |some t=>some (t,p,ds.set p (ds.getD p []).dropLast)
 |none=>match ds.getD v []with
  |t::r=>some (t,v,ds.set v r)
  |[]=>none
def Bz(k:Tsk):Nat:=k.lo+(k.hi-k.lo)/2
def stp(g:Nat)(c:Crw)(p v:Nat):Crw×Evt:=
 match found c.ds p v with
 |none=>({ c with st:=c.st+1,idl:=c.idl+1 },⟨p,none,false⟩)
 |some (t,f,ds)=>match c.ts[t]? with
  |none=>(c,⟨p,none,false⟩)
  |some k=>if g<k.hi-k.lo then
    ({ c with ts:=c.ts.set t { k with wait:=2 }++[⟨k.lo,Bz k,some t,0⟩,⟨Bz k,k.hi,some t,0⟩],ds:=ds.set p (ds.getD p []++[c.ts.length+1,c.ts.length]),st:=c.st+1 },⟨p,some (f,t),true⟩)
   else({ ts:=(fin c.ts.length c.ts k.up).1,dn:=Pv c.dn k.lo (k.hi-k.lo),ds:=ds,ov:=c.ov||(fin c.ts.length c.ts k.up).2,st:=c.st+1,idl:=c.idl },⟨p,some (f,t),false⟩)
theorem AJY{α:Type}{l:List α}{i:Nat}{a d:α}(h:l[i]? = some a):l.getD i d=a:=by grind
theorem kn{l:List (List Nat)}{p:Nat}{x:List Nat}(h:l[p]? = some x)(y:List Nat):∃ R,l.flatten.Perm (x++R)/\(l.set p y).flatten.Perm (y++R):=by
 induction l generalizing p with
  |nil=>simp at h
  |cons a l b=>
   cases p with
    |zero=>grind
    |succ p=>obtain⟨R,c,d⟩:=b (by simpa using h);refine⟨a++R,?_,?_⟩;all_goals grind
theorem bC{ds:List (List Nat)}{p v t f:Nat}{ds':List (List Nat)}(i:p<ds.length)(j:v<ds.length)(h:found ds p v=some (t,f,ds')):ds.flatten.Perm (t::ds'.flatten)/\ds'.length=ds.length/\f<ds.length:=by
 have b:ds[p]? = some (ds.getD p []):=by grind
 have c:ds[v]? = some (ds.getD v []):=by grind
 unfold found at h;split at h;rename_i x a;simp only[ASA,AST]at h;obtain⟨rfl,rfl,rfl⟩:=h;obtain⟨ys,d⟩:=AUw.1 a;rw[d,List.dropLast_concat];rw[d]at b;obtain⟨R,e,g⟩:=kn b ys;grind;split at h;rename_i x r a;simp only[ASA,AST]at h;obtain⟨rfl,rfl,rfl⟩:=h;rw[a]at c;obtain⟨R,e,g⟩:=kn c r;grind;grind
theorem wF{ds:List (List Nat)}{p v:Nat}(h:found ds p v=none):ds.getD p []=[]/\ds.getD v []=[]:=by unfold found at h;split at h;cases h;·rename_i a;split at h;all_goals simp_all
def evU(ts:List Tsk)(E:List Evt):List Nat:=E.flatMap fun e=>match e.ft with
 |some (_,t)=>if e.pt then []else rng ts t
 |none=>[]
structure StI(n W:Nat)(c:Crw)(E:List Evt):Prop where
 iv:∃ D,Iv n c.ts c.dn c.ds.flatten (evU c.ts E) D
 ov:c.ov=c.ds.flatten.isEmpty
 w:c.ds.length=W
 ev:∀ e∈E,∀ f t,e.ft=some (f,t)->t<c.ts.length
 st:c.st=E.length
 idl:c.idl<=E.length
theorem YF(ts:List Tsk)(E a:List Evt):evU ts (E++a)=evU ts E++evU ts a:=by unfold evU;simp
theorem gI{ts a:List Tsk}{E:List Evt}(b:∀ e∈E,∀ f t,e.ft=some (f,t)->t<ts.length)(h:∀ x,x<ts.length->rng a x=rng ts x):evU a E=evU ts E:=by unfold evU;refine Jp fun e c => ?_;grind
theorem iW{g n W:Nat}{c:Crw}{E:List Evt}{p v:Nat}(F:1<=g)(h:StI n W c E)(B:p<W)(G:v<W):
  StI n W (stp g c p v).1 (E++[(stp g c p v).2]) /\
  (((stp g c p v).1.ds=c.ds/\(stp g c p v).1.ts=c.ts/\c.ds.getD p []=[])\/pot g (stp g c p v).1.ts (stp g c p v).1.ds.flatten<pot g c.ts c.ds.flatten):=by
 obtain⟨D,m⟩:=h.iv;unfold stp;cases C:found c.ds p v with
  |none=>refine⟨⟨⟨D,?_⟩,h.ov,h.w,?_,by simp[h.st],by have:=h.idl;grind⟩,.inl ⟨rfl,rfl,(wF C).1⟩⟩;rw[YF];simpa [evU]using m;intro e b f t i;rcases ASF.1 b with b|b;exact h.ev e b f t i;grind
  |some q=>
   obtain⟨t,f,ds'⟩:=q;obtain⟨s,u,U⟩:=bC (by rw[h.w];exact B) (by rw[h.w];exact G) C;have d:=m.perm s;obtain⟨k,o,H⟩:=d.tr.act t (by simp);have I:=d.tr.tree t k o;have y:=(ASM.1 o).1;simp only[o];by_cases l:g<k.hi-k.lo;rw[ASL l];have J:k.lo<Bz k:=by unfold Bz;omega
   have K:Bz k<k.hi:=by unfold Bz;omega
   have L:tkN g (Bz k-k.lo)+tkN g (k.hi-Bz k)<tkN g (k.hi-k.lo):=by have:=AF1 F l;unfold Bz;rwa [show k.lo+(k.hi-k.lo)/2-k.lo=(k.hi-k.lo)/2 by omega,show k.hi-(k.lo+(k.hi-k.lo)/2)=k.hi-k.lo-(k.hi-k.lo)/2 by omega]
   obtain⟨M,N,O⟩:=d.part o J K L;have r:p<ds'.length:=by rw[u,h.w];exact B
   obtain⟨R,V,X⟩:=kn (p:=p) (x:=ds'.getD p []) (by rw[ASI r,AJY (ASI r)]) (ds'.getD p []++[c.ts.length+1,c.ts.length]);have a:(c.ts.length::(c.ts.length+1)::ds'.flatten).Perm (ds'.set p (ds'.getD p []++[c.ts.length+1,c.ts.length])).flatten:=by grind
   refine⟨⟨⟨D,?_⟩,?_,by simp[u,h.w],?_,by simp[h.st],by have:=h.idl;grind⟩,.inr ?_⟩;rw[YF,gI h.ev O];have:=M.perm a;simpa [evU]using this;show c.ov=_;rw[h.ov];have P:c.ds.flatten≠[]:=by intro e;simp_all
   have Y:(ds'.set p (ds'.getD p []++[c.ts.length+1,c.ts.length])).flatten≠[]:=by intro e;rw[e]at a;simp_all
   grind;intro e b z t' i;rcases ASF.1 b with b|b;have:=h.ev e b z t' i;grind;grind;show pot g _ _<_;rw[<- Zl a,Zl s];exact N;rw[ASH l];obtain⟨j,Q,Z,S,A⟩:=d.did g o;rw[Q];refine⟨⟨⟨D+1,?_⟩,?_,by rw[<- h.w];exact u,?_,by simp[h.st],by have:=h.idl;grind⟩,.inr ?_⟩;show Iv n j _ ds'.flatten (evU j _) _;rw[YF,gI h.ev fun x T=>(LH A T).1];have:evU j [⟨p,some (f,t),false⟩]=rng c.ts t:=by unfold evU;simp[(LH A y).1]
   grind;show(c.ov||_)=_;rw[h.ov];have P:c.ds.flatten≠[]:=by intro e;simp_all
   grind;intro e b z t' i;show t'<j.length;rw[A.1];rcases ASF.1 b with b|b;exact h.ev e b z t' i;grind;show pot g j _<_;rw[Zl s];exact S
def BL(g W:Nat)(c:Crw×List Evt):Nat->Crw×List Evt
 |0=>c
 |t+1=>let s:=BL g W c t
  if s.1.ov then s else
   let x:=stp g s.1 (t % W) ((t % W+1+t/W) % W)
   (x.1,s.2++[x.2])
theorem R0{g n W:Nat}(b:1<=g)(a:0<W){c:Crw×List Evt}(h:StI n W c.1 c.2):∀ t,StI n W (BL g W c t).1 (BL g W c t).2/\(BL g W c t).2.length<=c.2.length+t:=by
 intro t;induction t with
  |zero=>exact⟨h,ASG _⟩
  |succ t d=>unfold BL;simp only;split;grind;refine⟨(iW b d.1 (AUg _ a) (AUg _ a)).1,?_⟩;grind
theorem QP{g W:Nat}{c:Crw×List Evt}{t:Nat}(h:(BL g W c t).1.ov=true):∀ d,BL g W c (t+d)=BL g W c t:=by
 intro d;induction d with
  |zero=>rfl
  |succ d a=>rw[<- AUZ];show(let s:=BL g W c (t+d);if s.1.ov then s else _)=_;grind
theorem tR{g n W:Nat}(d:1<=g)(a:0<W){c:Crw×List Evt}(h:StI n W c.1 c.2)(r:Nat):∀ j,j<=W ->
  (∃ i,i<=j/\(BL g W c (r*W+i)).1.ov=true)\/pot g (BL g W c (r*W+j)).1.ts (BL g W c (r*W+j)).1.ds.flatten<pot g (BL g W c (r*W)).1.ts (BL g W c (r*W)).1.ds.flatten \/
  ((BL g W c (r*W+j)).1.ds=(BL g W c (r*W)).1.ds/\(BL g W c (r*W+j)).1.ts=(BL g W c (r*W)).1.ts/\∀ i,i<j->(BL g W c (r*W)).1.ds.getD i []=[]):=by
 intro j;induction j with
  |zero=>simp
  |succ j k=>
   intro l;by_cases e:(BL g W c (r*W+j)).1.ov=true;grind;have b:BL g W c (r*W+(j+1))=((stp g (BL g W c (r*W+j)).1 j ((j+1+r) % W)).1,(BL g W c (r*W+j)).2++[(stp g (BL g W c (r*W+j)).1 j ((j+1+r) % W)).2]):=by
    rw[<- AUZ];show(let s:=BL g W c (r*W+j);if s.1.ov then s else _)=_;simp only;rw[ASH e];have m:(r*W+j) % W=j:=by rw[Nat.add_comm,Nat.add_mul_mod_self_right];exact ATu (by omega)
    have o:(r*W+j)/W=r:=by rw[Nat.add_comm,Nat.add_mul_div_right _ _ a,Nat.div_eq_of_lt (by omega),ATE]
    grind
   have f:=iW (p:=j) (v:=(j+1+r) % W) d (R0 d a h (r*W+j)).1 (by omega) (AUg _ a);grind
theorem flatten_nil{l:List (List Nat)}(h:∀ i,i<l.length->l.getD i []=[]):l.flatten=[]:=by
 induction l with
  |nil=>rfl
  |cons a l c=>have b:=h 0 (by simp);simp at b;rw[AUM,b,AS1];refine c fun i hi => ?_;have:=h (i+1) (by grind);grind
theorem AA5{g n W:Nat}(d:1<=g)(e:0<W){c:Crw×List Evt}(h:StI n W c.1 c.2):(BL g W c ((pot g c.1.ts c.1.ds.flatten+1)*W)).1.ov=true:=by
 have f:∀ r,(BL g W c (r*W)).1.ov=true\/pot g (BL g W c (r*W)).1.ts (BL g W c (r*W)).1.ds.flatten+r<=pot g c.1.ts c.1.ds.flatten:=by
  intro r;induction r with
   |zero=>rw[AUA];exact .inr (ASG _)
   |succ r o=>
    rw[ATh,AUS];rcases o with a|a;exact .inl (by rw[QP a];exact a);rcases tR d e h r W (ASG _)with⟨i,j,k⟩|j|⟨j,k,p⟩
    refine .inl ?_;have:=QP k (W-i);grind;omega;have m:=(R0 d e h (r*W)).1;have:=flatten_nil (l:=(BL g W c (r*W)).1.ds) (fun i hi=>p i (by rw[m.w]at hi;exact hi));have b:=m.ov;rw[this]at b;exact .inl (by rw[QP b];exact b)
 grind
theorem StI.done{n W:Nat}{c:Crw}{E:List Evt}(h:StI n W c E)(d:c.ov=true):(evU c.ts E).Perm (List.range n):=by obtain⟨D,a⟩:=h.iv;have b:=h.ov;rw[d]at b;have:=List.isEmpty_iff.1 b.symm;have e:=a.units;grind
abbrev TkI:=Int×Int×Int×Int×Unit
def L6:Option Nat->Int
 |none=>-1
 |some u=>(u:Int)
def BH(t:Tsk):TkI:=((t.lo:Int),(t.hi:Int),L6 t.up,(t.wait:Int),())
abbrev Pj(g:Nat)(ts:List Tsk)(dn:List Bool):List TkI×Int×List Bool×Unit:=(ts.map BH,(g:Int),dn,())
structure Wok(g:Nat)(ts:List Tsk)(dn:List Bool):Prop where
 g1:1<=g
 g2:g<=100
 n1:1<=dn.length
 n2:dn.length<=1000
 t1:1<=ts.length
 t2:ts.length<=2000
 ok:∀ (i:Nat) (t:Tsk),ts[i]? = some t->t.lo<t.hi/\t.hi<=dn.length/\t.wait<=2/\∀ x,t.up=some x->x<i
theorem Pq(a b:Int):K9 (a,b,())=some (decide (1<=a/\a<=1000/\1<=b/\b<=100),()):=by rw[Ru,Na,BM,BM,BM,BM];grind
theorem ALe{u:Option Nat}{i:Nat}(h:∀ x,u=some x->x<i):-1<=L6 u/\L6 u<(i:Int):=by
 cases u with
  |none=>simp only[L6];omega
  |some x=>have:=h x rfl;simp only[L6];omega
theorem Hh{ts:List Tsk}{i:Nat}{t:Tsk}(h:ts[i]? = some t):(ts.map BH)[i]? = some (BH t):=by grind
theorem WU{g:Nat}{ts:List Tsk}{a:List Bool}(h:Wok g ts a):Rp (Pj g ts a,())=some (true,()):=by
 have:=h.g1;have:=h.g2;have:=h.n1;have:=h.n2;have:=h.t1;have:=h.t2;rw[Yv,Ts];simp only[A6,ASZ,Pq];rw[AR9 (show 1<=(a.length:Int)/\(a.length:Int)<=1000/\1<=(g:Int)/\(g:Int)<=100 by omega)];simp only[ASE];rw[BB,AR8 (show ¬ (ts.length:Int)=0 by omega),BC,AR8 (show ¬ (2000:Int)<(ts.length:Int) by omega)]
 have e:=Gg (step:=MC) (fun i=>(ts.map BH,(g:Int),a,ts.map BH,(ts.length:Int),(i:Int),())) (ts.map BH) (fun _=>false) (fun _=>.inl (false,())) (.inr (.inl ())) (by grind)
  (fun i x hi c=>by
   rw[ASZ]at hi
   have b:ts[i]? = some ts[i]:=ASI hi
   generalize ts[i]=t at b
   rw[Hh b]at c
   cases c
   obtain⟨f,j,k,d⟩:=h.ok i t b
   have l:=ALe d
   rw[MC,A2,AR9 hi]
   simp only[A' (Hh b),BH,A6,BC,BM]
   rw[AR8 (show ¬ (t.lo:Int)<0 by omega),AR8 (show ¬ (t.hi:Int)<=(t.lo:Int) by omega),AR8 (show ¬ (a.length:Int)<(t.hi:Int) by omega),AR8 (show ¬ L6 t.up < -1 by omega),
    AR8 (show ¬ (i:Int)<=L6 t.up by omega),AR8 (show ¬ (t.wait:Int)<0 by omega),AR8 (show ¬ (2:Int)<(t.wait:Int) by omega),A5 (by omega)]
   simp)
  (by rw[MC,ASZ,A2,AR8 (by omega)])
 grind
theorem NZ{g:Nat}{ts:List Tsk}{a:List Bool}(h:Wok g ts a){i:Nat}(hi:i<ts.length):O6 (Pj g ts a,(i:Int),())=some (0,()):=by rw[Yt,Tq];simp only[WU h,A6,ASZ,ASE];rw[BC,AR8 (by omega),Dq,AR8 (by omega)]
theorem NY{t:Tsk}(h:t.lo<=t.hi)(a:t.hi<=1000):MB (BH t,())=some (((t.hi-t.lo:Nat):Int),()):=by rw[Ys,Tp];simp only[BH];rw[Ep (by omega)]
theorem WV{g:Nat}{ts:List Tsk}{b:List Bool}(h:Wok g ts b){i:Nat}{t:Tsk}(a:ts[i]? = some t):Rq (Pj g ts b,(i:Int),())=some (decide (g<t.hi-t.lo),()):=by
 have d:=h.ok i t a;have:=h.n2;rw[Yx,Tt];have c:ieq (0:Int) 0=true:=by rw[BB];rfl
 simp only[NZ h (ASM.1 a).1,c,A' (Hh a)];have:=NY (t:=t) (by omega) (by omega);rw[show((BH t).1,(BH t).2.1,(BH t).2.2.1,(BH t).2.2.2.1,())=BH t from rfl,this];simp only[A2]
theorem zd{ts:List Tsk}{i:Nat}{t:Tsk}:(ts.map BH).set i (BH t)=(ts.set i t).map BH:=by simp
theorem sZ{g:Nat}{ts:List Tsk}{b:List Bool}(h:Wok g ts b){i:Nat}{t:Tsk}(c:ts[i]? = some t)(l:g<t.hi-t.lo)(d:t.wait=0)(m:ts.length+2<=2000):
  iT (Pj g ts b,(i:Int),())=some ((ts.set i { t with wait:=2 }++([⟨t.lo,Bz t,some i,0⟩,⟨Bz t,t.hi,some i,0⟩]:List Tsk)).map BH,(g:Int),b,(ts.length:Int),((ts.length+1:Nat):Int),0,()):=by
 have n:=h.ok i t c;have:=h.n2;have hi:=(ASM.1 c).1;rw[eQ,Yw];have e:ieq (0:Int) 0=true:=by rw[BB];rfl
 have f:=NY (t:=t) (by omega) (by omega);simp only[NZ h hi,e,A' (Hh c),ASE];rw[show((BH t).1,(BH t).2.1,(BH t).2.2.1,(BH t).2.2.2.1,())=BH t from rfl,f];simp only[Dq,AR8 (show ¬ t.hi-t.lo<=g by omega)];have j:(BH t).2.2.2.1=0:=by simp[BH,d]
 rw[j,BC,AR8 (show ¬ (0:Int)<0 by omega)];simp only[A6,ASZ];rw[show(ts.length:Int)+2=((ts.length+2:Nat):Int) by omega,BG (by omega),BC,AR8 (by omega)];simp only[AHG (show t.hi-t.lo<9223372036854775808 by omega),HW (show(ts.map BH).length<=4294967296 by grind),ASZ,ASK,ASV];rw[CC (by omega)];have k:w64 ((BH t).1+((t.hi-t.lo)/2:Nat))=(Bz t:Int):=by show w64 ((t.lo:Int)+_)=_;rw[wrap_add (by omega)];rfl
 simp only[k,Ej];have a:(ts.map BH++[((BH t).1,((Bz t:Nat):Int),(i:Int),(0:Int),()),(((Bz t:Nat):Int),(BH t).2.1,(i:Int),(0:Int),())])[i]? = some (BH t):=by grind
 simp only[A' a,Bm a];rw[DX,List.set_append_left _ _ (by grind)];rw[A5 (by omega),ASz,<- zd];rfl
theorem AJq:∀ (k:Nat) (ts:List Tsk) (u:Option Nat) (n:Nat),(∀ (i:Nat) (t:Tsk),ts[i]? = some t->t.wait<=2/\∀ x,t.up=some x->x<i)->(∀ x,u=some x->x<k/\x<ts.length)->ts.length<1000000->k<n ->
  BD Hu n (ts.map BH,L6 u,())=some (if(fin k ts u).2=true then Sum.inr (Sum.inl ((fin k ts u).1.map BH,()))else Sum.inl ((fin k ts u).1.map BH,false,())):=by
 have a:∀ (ts:List Tsk) (n:Nat),0<n->BD Hu n (ts.map BH,L6 none,())=some (Sum.inr (Sum.inl (ts.map BH,()))):=by
  intro ts n e;obtain⟨n,rfl⟩:∃ m,n=m+1:=⟨n-1,by omega⟩
  rw[BD,Hu];unfold L6;rw[BB,AR9 rfl];rfl
 intro k;induction k with
  |zero=>
   intro ts u n g h o e;cases u with
    |none=>rw[a ts n e];rfl
    |some x=>grind
  |succ k p=>
   intro ts u n g h o e;cases u with
    |none=>rw[a ts n (by omega)];rfl
    |some x=>
     obtain⟨B,q⟩:=h x rfl;obtain⟨n,rfl⟩:∃ m,n=m+1:=⟨n-1,by omega⟩
     have b:ts[x]? = some (ts[x]):=ASI q;generalize ts[x]=t at b;have r:=g x t b;rw[BD,Hu];have v:ieq (L6 (some x)) (-1:Int)=false:=by rw[BB];exact AR8 (by simp only[L6];omega)
     have w:L6 (some x)=(x:Int):=rfl;simp only[v];simp only[ASf,w,A' (Hh b),Bm (Hh b)];have d:Be (ts.map BH) (A3 (x:Int)) ((BH t).1,(BH t).2.1,(BH t).2.2.1,w64 ((BH t).2.2.2.1-1),())=if t.wait=0 then Be (ts.map BH) (A3 (x:Int)) ((BH t).1,(BH t).2.1,(BH t).2.2.1,w64 ((BH t).2.2.2.1-1),())else(ts.set x { t with wait:=t.wait-1 }).map BH:=by by_cases c:t.wait=0;grind;rw[ASH c,DX,<- zd];congr 1;show((BH t).1,(BH t).2.1,(BH t).2.2.1,w64 ((t.wait:Int)-1),())=_;rw[B1 (by omega)];rfl
     unfold fin;rw[b];by_cases c:t.wait=0;have j:ieq (BH t).2.2.2.1 (0:Int)=true:=by rw[BB];exact AR9 (by simp[BH,c])
     grind
     ·have j:ieq (BH t).2.2.2.1 (0:Int)=false:=by rw[BB];exact AR8 (by simp[BH,c])
      rw[ASH c]at d;simp only[j,d];have z:((ts.set x { t with wait:=t.wait-1 }).map BH)[x]? = some (BH { t with wait:=t.wait-1 }):=Hh (ZC b);simp only[Bm z];by_cases f:0<t.wait-1;have l:ilt (0:Int) (BH { t with wait:=t.wait-1 }).2.2.2.1=true:=by rw[BC];exact AR9 (by simp only[BH];omega)
      grind
      ·have l:ilt (0:Int) (BH { t with wait:=t.wait-1 }).2.2.2.1=false:=by rw[BC];exact AR8 (by simp only[BH];omega)
       simp only[l,c,f,ASX];have A:(BH { t with wait:=t.wait-1 }).2.2.1=L6 t.up:=rfl;rw[A];exact p (ts.set x { t with wait:=t.wait-1 }) t.up n (fun i s d=>by
        rcases Sw d with⟨rfl,rfl,_⟩|⟨_,d⟩
        all_goals grind) (fun y C=>by
        grind) (by grind) (by omega)
theorem iU{ts:List Tsk}{u:Option Nat}(c:∀ (i:Nat) (t:Tsk),ts[i]? = some t->t.wait<=2/\∀ x,t.up=some x->x<i)(a:∀ x,u=some x->x<ts.length)(d:ts.length<1000000):
  Rr (ts.map BH,L6 u,())=some ((fin ts.length ts u).1.map BH,(fin ts.length ts u).2,()):=by
 rw[WW,QJ];have f:ts.length<many:=by simp only[many];omega
 have e:=AJq ts.length ts u many c (fun x b=>⟨a x b,a x b⟩) d f;rw[BR,e];grind
theorem wI(c:Nat):∀ (k:Nat) (b:List Bool),(List.range k).foldl (fun a j=>a.set (c+j) true) b=Pv b c k:=by
 intro k;induction k with
  |zero=>intro b;rfl
  |succ k d=>intro b;rw[ASi,ATN,d];rfl
theorem AFz{g:Nat}{ts:List Tsk}{b:List Bool}(h:Wok g ts b){i:Nat}{t:Tsk}(d:ts[i]? = some t)(m:¬ g<t.hi-t.lo)(o:t.wait=0)(hd:b[t.lo]? = some false):
  ALt (Pj g ts b,(i:Int),())=some ((fin ts.length ts t.up).1.map BH,(g:Int),Pv b t.lo (t.hi-t.lo),(fin ts.length ts t.up).2,0,()):=by
 have A:=h.ok i t d;have:=h.n2;have:=h.t2;have hi:=(ASM.1 d).1;rw[yB,se];have p:ieq (0:Int) 0=true:=by rw[BB];rfl
 have q:=NY (t:=t) (by omega) (by omega);simp only[NZ h hi,p,A' (Hh d),ASE];rw[show((BH t).1,(BH t).2.1,(BH t).2.2.1,(BH t).2.2.2.1,())=BH t from rfl,q];simp only[A2,AR8 m];have u:(BH t).2.2.2.1=0:=by simp[BH,o]
 have v:(BH t).1=(t.lo:Int):=rfl;have w:(BH t).2.1=(t.hi:Int):=rfl;have y:(BH t).2.2.1=L6 t.up:=rfl;rw[u,BC,AR8 (show ¬ (0:Int)<0 by omega)];simp only[v,w,y,A' hd,HW (show(ts.map BH).length<=4294967296 by grind),HW (show b.length<=4294967296 by omega)]
 have e:=DL (step:=Rs) (fun j (a:List Bool)=>(ts.map BH,(g:Int),a,(0:Int),(t.lo:Int),(t.hi:Int),L6 t.up,(0:Int),((t.lo+j:Nat):Int),())) (List.range (t.hi-t.lo)) (fun(j:Nat) a=>.inl (a.set (t.lo+j) true))
  (fun a=>.inl (ts.map BH,(g:Int),a,(0:Int),(t.lo:Int),(t.hi:Int),L6 t.up,(0:Int),())) (fun _ a=>a.length=b.length) (by grind)
  (fun j x a k c B=>by
   rw[ASP]at k
   rw[List.getElem?_range k]at c
   cases c
   refine⟨fun C f => ?_,fun r f=>by cases f⟩
   cases f
   refine⟨?_,by grind⟩
   rw[Rs,A2,AR9 (show t.lo+j<t.hi by omega)]
   obtain⟨x,c⟩:=AQd (xs:=a) (n:=t.lo+j) (by omega)
   simp only[c,DX]
   rw[A5 (by omega)]
   rfl)
  (fun a _=>by
   rw[ASP,Rs,A2,AR8 (by omega)]) b rfl
 have z:A9 Rs many (ts.map BH,(g:Int),b,(0:Int),(t.lo:Int),(t.hi:Int),L6 t.up,(0:Int),(t.lo:Int),())=_:=e;rw[z,B2,wI];simp only;rw[iU (fun i s l=>⟨(h.ok i s l).2.2.1,(h.ok i s l).2.2.2⟩) (fun x c=>by grind) (by omega)]
abbrev CrI:=(List TkI×Int×List Bool×Unit)×List (List Int)×Bool×Int×Int×Unit
abbrev EvI:=Int×Int×Int×Bool×Unit
def nI(l:List Nat):List Int:=l.map fun n:Nat=>(n:Int)
def CS(ds:List (List Nat)):List (List Int):=ds.map nI
def RC(g:Nat)(c:Crw):CrI:=(Pj g c.ts c.dn,CS c.ds,c.ov,(c.st:Int),(c.idl:Int),())
def D4(e:Evt):EvI:=((e.w:Int),(match e.ft with|some q=>(q.1:Int)|none=>-1),(match e.ft with|some q=>(q.2:Int)|none=>-1),e.pt,())
theorem Ew{l:List Nat}{i:Nat}{x:Nat}(h:l[i]? = some x):(nI l)[i]? = some (x:Int):=by unfold nI;grind
theorem Ch(l:List Nat):(nI l).length=l.length:=by unfold nI;simp
theorem Lg(ds:List (List Nat)):(CS ds).length=ds.length:=by unfold CS;simp
theorem ID{ds:List (List Nat)}{i:Nat}{l:List Nat}(h:ds[i]? = some l):(CS ds)[i]? = some (nI l):=by unfold CS;grind
theorem bL(ds:List (List Nat))(i:Nat)(l:List Nat):(CS ds).set i (nI l)=CS (ds.set i l):=by unfold CS;simp
structure Cok(g W:Nat)(c:Crw):Prop where
 wok:Wok g c.ts c.dn
 w1:1<=W
 w2:W<=8
 w:c.ds.length=W
 st:c.st<100000
 idl:c.idl<100000
 nod:c.ds.flatten.Nodup
 act:∀ a∈c.ds.flatten,∃ t:Tsk,c.ts[a]? = some t/\t.wait=0/\c.dn[t.lo]? = some false
 few:c.ts.length+2<=2000\/∀ a∈c.ds.flatten,∀ t:Tsk,c.ts[a]? = some t->¬ g<t.hi-t.lo
 short:c.ds.flatten.length<=1000
theorem xW{g W:Nat}{c:Crw}(h:Cok g W c){a:Nat}(d:a∈c.ds.flatten):l7 (Pj g c.ts c.dn,(a:Int),())=some (true,()):=by
 obtain⟨t,b,e,hd⟩:=h.act a d;have f:=(ASM.1 b).1;rw[gY,cB];simp only[BM,AR9 (show(0:Int)<=(a:Int) by omega),A6,ASZ,A2,AR9 f,A' (Hh b)];have i:ieq (BH t).2.2.2.1 (0:Int)=true:=by rw[BB];exact AR9 (by simp[BH,e])
 simp only[i,WV h.wok b];have j:(BH t).1=(t.lo:Int):=rfl;by_cases k:g<t.hi-t.lo;grind;simp only[AR8 k,j,A' hd,ASf]
theorem mE(n:Nat):Oj ((n:Int),())=some (decide (n<=100000),()):=by rw[XE,RO,BM,AR9 (by omega),BM];by_cases h:n<=100000;all_goals grind
def M1(l:List Nat):List (Int×Int):=l.map fun n:Nat=>((n:Int),(1:Int))
theorem sE{l:List Nat}{x:Nat}(h:x∉l):BF (M1 l) (x:Int) (1:Int)=M1 (l++[x])/\A7 (M1 l) (x:Int)=none:=by
 induction l with
  |nil=>exact⟨rfl,rfl⟩
  |cons y l b=>
   rw[ASW,not_or]at h;obtain⟨c,d⟩:=b h.2;have a:¬ (y:Int)=(x:Int):=by omega
   constructor;show(if(y:Int)=(x:Int)then _ else _)=_;rw[ASH a];show _::BF (M1 l) (x:Int) 1=_;rw[c];rfl;show(if(y:Int)=(x:Int)then _ else _)=_;rw[ASH a];exact d
theorem Ms{ds:List (List Nat)}{i:Nat}{l:List Nat}(h:ds[i]? = some l):ds.flatten=(ds.take i).flatten++(l++(ds.drop (i+1)).flatten)/\(ds.take (i+1)).flatten=(ds.take i).flatten++l:=by
 obtain⟨a,rfl⟩:=ASM.1 h;constructor
 ·conv=>lhs;rw[<- AS8 i ds,ASr a]
  grind
 rw[ATc,ASI a,AUs];simp
theorem w7{g W:Nat}{c:Crw}(h:Cok g W c):lP (RC g c,())=some (true,()):=by
 have:=h.w1;have:=h.w2;have:=h.w;have:=h.st;have:=h.idl;have:=h.short;rw[gR,bk];simp only[RC,WU h.wok,ASE,A6,Lg];rw[BB,AR8 (show ¬ (c.ds.length:Int)=0 by omega),BC,AR8 (show ¬ (8:Int)<(c.ds.length:Int) by omega)];simp only[mE,AR9 (show c.st<=100000 by omega),AR9 (show c.idl<=100000 by omega),ASE]
 have a:∀ (i:Nat) (l:List Nat) (b:Int),c.ds[i]? = some l->A9 Li many (c.ts.map BH,(g:Int),c.dn,CS c.ds,c.ov,(c.st:Int),(c.idl:Int),M1 (c.ds.take i).flatten,CS c.ds,b,(i:Int),nI l,(l.length:Int),(0:Int),()) =
   some (.inr (.inl (c.ts.map BH,(g:Int),c.dn,CS c.ds,c.ov,(c.st:Int),(c.idl:Int),M1 (c.ds.take (i+1)).flatten,CS c.ds,b,(i:Int),()))):=by
  intro i l b f
  obtain⟨z,q⟩:=Ms f
  have r:l.length<=1000:=by
   grind
  have e:=Gg (step:=Li) (fun j=>(c.ts.map BH,(g:Int),c.dn,CS c.ds,c.ov,(c.st:Int),(c.idl:Int),M1 ((c.ds.take i).flatten++l.take j),CS c.ds,b,(i:Int),nI l,(l.length:Int),(j:Int),())) l (fun _=>false)
   (fun _=>.inl (false,())) (.inr (.inl (c.ts.map BH,(g:Int),c.dn,CS c.ds,c.ov,(c.st:Int),(c.idl:Int),M1 (c.ds.take (i+1)).flatten,CS c.ds,b,(i:Int),()))) (by omega)
   (fun j x s k=>by
    rw[Li,A2,AR9 s]
    have t:=h.nod
    have u:l=l.take j++x::l.drop (j+1):=by
     obtain⟨v,rfl⟩:=ASM.1 k
     simp
    have d:x∉(c.ds.take i).flatten++l.take j:=by
     grind
    have m:x∈c.ds.flatten:=by grind
    obtain⟨p,y⟩:=sE d
    have n:w64 (((A7 (M1 ((c.ds.take i).flatten++l.take j)) (x:Int)).getD (0:Int))+(1:Int))=1:=by
     rw[y];exact BG (by decide)
    simp only[A' (Ew k),n,p]
    have o:A7 (M1 ((c.ds.take i).flatten++l.take j++[x])) (x:Int)=some 1:=by
     rw[<- p,FG,ASL rfl]
    rw[o,BC]
    simp only[ATA,AR8 (show ¬ (1:Int)<1 by omega)]
    have:=xW h m
    simp only[Pj]at this
    simp only[this,ASE]
    rw[A5 (by omega),ATo]
    have:l.take (j+1)=l.take j++[x]:=by rw[ATc,k];rfl
    grind)
   (by
    rw[Li,A2,AR8 (by omega),ASc,q])
  grind
 have e:=Gg (step:=Lj) (fun i=>(c.ts.map BH,(g:Int),c.dn,CS c.ds,c.ov,(c.st:Int),(c.idl:Int),M1 (c.ds.take i).flatten,CS c.ds,(c.ds.length:Int),(i:Int),())) c.ds (fun _=>false) (fun _=>.inl (false,())) (.inr (.inl ())) (by omega)
  (fun i l hi f=>by
   rw[Lj,A2,AR9 hi]
   simp only[A' (ID f),A6,Ch]
   simp only[a i l _ f]
   rw[A5 (by omega)]
   simp)
  (by rw[Lj,A2,AR8 (by omega)])
 have A:A9 Lj many (c.ts.map BH,(g:Int),c.dn,CS c.ds,c.ov,(c.st:Int),(c.idl:Int),([]:List (Int×Int)),CS c.ds,(c.ds.length:Int),(0:Int),())=_:=e;grind
def CO(W:Nat)(x:Int):Nat:=((x.tmod W+W).tmod W).toNat
theorem PD{W:Nat}(a:1<=W)(x:Int):CO W x<W:=by unfold CO;have b:=Int.tmod_lt_of_pos (x.tmod W+W) (show(0:Int)<W by omega);omega
theorem AMb{a:Int}{W:Nat}(b:1<=W):rem? a (W:Int)=some (a.tmod W):=by rw[th,AG8,ASH (by omega)]
theorem rH{ds:List (List Nat)}{W:Nat}(k:1<=W)(l:W<=8)(hd:ds.length=W)(b:List TkI)(c:Int)(d:List Bool)(e:Bool)(f g h i j:Int)(a:Bool)(x:Int):
  TJ (b,c,d,CS ds,e,f,g,h,i,j,a,x,())=some (b,c,d,CS ds,e,f,g,h,i,j,a,(CO W x:Int),()):=by
 rw[bz,Vx];simp only[A6,Lg,hd,AMb k];have m:=Int.tmod_lt_of_pos x (show(0:Int)<W by omega);have n:-(W:Int)<x.tmod W:=by have:=Int.tmod_lt_of_pos (-x) (show(0:Int)<W by omega);rw[Int.neg_tmod]at this;omega
 rw[BG (by omega)];have o:0<=(x.tmod W+W).tmod W:=Int.tmod_nonneg _ (by omega);unfold CO;grind
theorem ANP(l:List Nat)(k:Nat):(nI l).take k=nI (l.take k):=by unfold nI;simp
theorem xX{ds:List (List Nat)}{p v:Nat}(A:p<ds.length)(B:v<ds.length)(C:ds.flatten.length<=1000)(d:List TkI)(e:Int)(g:List Bool)(h:Bool)(j k m s u:Int)(b:Bool):
  mD (d,e,g,CS ds,h,j,k,m,s,u,b,(p:Int),(v:Int),())=match found ds p v with
   |some (t,f,ds')=>some (d,e,g,CS ds',h,j,k,m,(f:Int),(t:Int),b,true,())
   |none=>some (d,e,g,CS ds,h,j,k,m,s,u,b,false,()):=by
 have n:ds[p]? = some (ds.getD p []):=by grind
 have o:ds[v]? = some (ds.getD v []):=by grind
 have a:∀ {i:Nat} {l:List Nat},ds[i]? = some l->l.length<=1000:=by intro i l x;have:=ASt List.length (Ms x).1;grind
 have D:=a n;have E:=a o;unfold found;generalize ds.getD p []=lp at *;generalize ds.getD v []=lv at *;rw[ga,cC];simp only[A' (ID n),A' (ID o),Bm (ID n),Bm (ID o),A6,Ch];rw[BG (by omega),BM];cases w:lp.getLast? with
  |some t=>
   obtain⟨ys,rfl⟩:=AUw.1 w;rw[ASN,AUJ]at *;have y:(((ys.length+1:Nat):Int)-1)=(ys.length:Int):=by omega
   rw[y,AR9 (by omega)];have q:(nI (ys++[t]))[ys.length]? = some (t:Int):=Ew (by simp);have c:ieq (ys.length:Int) (ys.length:Int)=true:=by rw[BB];simp
   simp only[A' q,c,Tw (show ys.length<=(nI (ys++[t])).length by grind),ANP,List.take_left,DX,bL,List.dropLast_concat]
  |none=>
   have:lp=[]:=List.getLast?_eq_none_iff.1 w;subst this;rw[AR8 (by simp)];cases lv with
    |nil=>rw[BC,AR8 (by simp)]
    |cons t r=>
     rw[BC,AR9 (by simp)];have q:idx (nI (t::r)) (0:Int)=some (t:Int):=by rw[H8];rfl
     have c:=Nf (xs:=nI (t::r)) (l:=1) (by rw[Ch];simp);rw[A6,Ch]at c;have z:Dd (nI (t::r)) (1:Int) (((t::r).length:Nat):Int)=some (nI r):=c;simp only[q,z,DX,bL]
theorem AOh{g W:Nat}{c:Crw}(h:Cok g W c){t f p:Nat}{ds':List (List Nat)}(v:p<ds'.length)(x:ds'.flatten.length<=1000){k:Tsk}(j:c.ts[t]? = some k)(o:k.wait=0)(hd:c.dn[k.lo]? = some false)
  (d:g<k.hi-k.lo->c.ts.length+2<=2000) (l:Bool) (st a w m:Int) :
  cgo (c.ts.map BH,(g:Int),c.dn,CS ds',l,st,a,w,m,(t:Int),false,(p:Int),()) =
   if g<k.hi-k.lo then some ((c.ts.set t { k with wait:=2 }++([⟨k.lo,Bz k,some t,0⟩,⟨Bz k,k.hi,some t,0⟩]:List Tsk)).map BH,(g:Int),c.dn,CS (ds'.set p (ds'.getD p []++[c.ts.length+1,c.ts.length])),l,st,a,w,m,(t:Int),true,0,())
   else some ((fin c.ts.length c.ts k.up).1.map BH,(g:Int),Pv c.dn k.lo (k.hi-k.lo),CS ds',l||(fin c.ts.length c.ts k.up).2,st,a,w,m,(t:Int),false,0,()):=by
 have n:ds'[p]? = some (ds'.getD p []):=by grind
 have y:(ds'.getD p []).length<=1000:=by have:=ASt List.length (Ms n).1;grind
 rw[AKR,AKS];have e:=WV h.wok j;simp only[Pj]at e;simp only[e];have q:ieq (0:Int) 0=true:=by rw[BB];rfl
 by_cases b:g<k.hi-k.lo;rw[ASL b];have i:=sZ h.wok j b o (d b);simp only[Pj]at i;have r:ieq (((ds'.getD p []).length:Nat):Int) (((ds'.getD p []).length:Nat):Int)=true:=by rw[BB];simp
 have s:Dd (nI (ds'.getD p [])) (0:Int) (((ds'.getD p []).length:Nat):Int)=some (nI (ds'.getD p [])):=by have:=Tw (xs:=nI (ds'.getD p [])) (h:=(nI (ds'.getD p [])).length) (ASG _);rw[ASc,Ch]at this;omega
 simp only[AR9 b,i,q,A' (ID n),Bm (ID n),A6,Ch,r,s,ASK,ASV];rw[CC (by omega)];simp only[Ej,DX];have:nI (ds'.getD p [])++[((c.ts.length+1:Nat):Int),(c.ts.length:Int)]=nI (ds'.getD p []++[c.ts.length+1,c.ts.length]):=by unfold nI;simp
 rw[this,bL];rw[ASH b];have u:=AFz h.wok j b o hd;grind
theorem AEU{g W:Nat}{c:Crw}(h:Cok g W c)(x y:Int):
  zk (RC g c,x,y,())=some ((stp g c (CO W x) (CO W y)).1.ts.map BH,(g:Int),(stp g c (CO W x) (CO W y)).1.dn,CS (stp g c (CO W x) (CO W y)).1.ds,(stp g c (CO W x) (CO W y)).1.ov,((stp g c (CO W x) (CO W y)).1.st:Int),((stp g c (CO W x) (CO W y)).1.idl:Int),
   D4 (stp g c (CO W x) (CO W y)).2,0,()):=by
 have r:=PD h.w1 x;have s:=PD h.w1 y;have:=h.st;have:=h.idl;have:=h.w;have:=h.short;have:=h.w2;have u:c.ds.length<=8:=by omega
 rw[qw,lN];have l:=w7 h;simp only[RC,Pj]at l;simp only[RC,Pj,l,ASE];rw[BB,AR8 (show ¬ (c.st:Int)=100000 by omega)];simp only[HW (show(CS c.ds).length<=4294967296 by rw[Lg];omega),rH h.w1 h.w2 h.w];rw[A5 (by omega)];have z:=fun A B C D E F G H I b=>xX (ds:=c.ds) (p:=CO W x) (v:=CO W y) (by omega) (by omega) h.short A B C D E F G H I b;simp only[z];cases a:found c.ds (CO W x) (CO W y)with
  |none=>unfold stp;simp only[a];rw[BB,AR8 (show ¬ (c.idl:Int)=100000 by omega),A5 (by omega)];rfl
  |some q=>
   obtain⟨t,f,ds'⟩:=q;obtain⟨m,L,M⟩:=bC (by omega) (by omega) a;have d:t∈c.ds.flatten:=m.mem_iff.2 (by simp);obtain⟨k,n,J,hd⟩:=h.act t d;have e:ds'.flatten.length<=1000:=by have:=m.length_eq;grind
   have i:=AOh h (t:=t) (f:=f) (p:=CO W x) (ds':=ds') (by omega) e n J hd (fun j=>by rcases h.few with K|K;all_goals grind)
   simp only[i];have o:ieq (0:Int) 0=true:=by rw[BB];rfl
   unfold stp;simp only[a,n];by_cases j:g<k.hi-k.lo;simp only[ASL j,o,ASE];rfl;simp only[ASH j,o,ASE];rfl
theorem GP{σ ρ:Type}{step:σ->Option (σ⊕ρ)}(st:Nat->σ)(N:Nat)(r:ρ)(a:N<9223372036854775808)(h:∀ i,i<N->step (st i)=some (.inl (st (i+1))))(b:step (st N)=some (.inr r)):A9 step many (st 0)=some r:=by
 have:=Gg (step:=step) st (List.range N) (fun _=>false) (fun _=>r) r (by grind) (fun i x hi _=>by grind) (by grind)
 grind
section
variable {g n W:Nat} {c:Crw} {E:List Evt}
theorem StI.cok(h:StI n W c E)(p:1<=g)(j:g<=100)(k:1<=n)(l:n<=1000)(q:1<=W)(m:W<=8)(G:E.length<100000):Cok g W c:=by
 obtain⟨D,b⟩:=h.iv;have H:=b.bound;have I:=b.size;have r:=h.st;have o:=h.idl;refine⟨⟨p,j,by rw[b.len];exact k,by rw[b.len];exact l,by omega,by omega,fun i t d => ?_⟩,q,m,h.w,by omega,by omega,b.tr.nod,fun a f => ?_,?_,by omega⟩;obtain⟨s,u,v,_,x⟩:=b.tr.tree i t d;exact⟨s,by rw[b.len];exact u,v,x⟩;obtain⟨t,d,y⟩:=b.tr.act a f;exact⟨t,d,y,b.APg f d⟩;by_cases z:∃ a∈c.ds.flatten,∃ t:Tsk,c.ts[a]? = some t/\g<t.hi-t.lo;obtain⟨a,f,t,d,A⟩:=z;left;obtain⟨B,C,e⟩:=AUd f;have F:c.ds.flatten.Perm (a::(B++C)):=by grind
 have:=(b.perm F).AQw d (Bz:=t.lo+1) (by omega) (by omega);omega;grind
theorem AEt(h:Cok g W c):zp (RC g c,())=some ((c.ds.flatten.length:Int),()):=by
 have:=h.w;have:=h.w2;have:=h.short;rw[rW,l8]
 have e:=GP (step:=Oh) (fun i=>(((c.ds.take i).flatten.length:Int),CS c.ds,(c.ds.length:Int),(i:Int),())) c.ds.length (.inl ((c.ds.flatten.length:Int),())) (by omega)
  (fun i hi=>by
   rw[Oh,A2,AR9 hi]
   have b:=ASI hi
   obtain⟨d,f⟩:=Ms b
   have a:=ASt List.length d
   simp only[ASN]at a
   simp only[A' (ID b),A6,Ch]
   rw[wrap_add (by omega),A5 (by omega),f,ASN])
  (by rw[Oh,A2,AR8 (by omega),ASc])
 have j:A9 Oh many ((0:Int),CS c.ds,(c.ds.length:Int),(0:Int),())=_:=e;simp only[RC,A6,Lg,j]
theorem gM(h:Cok g W c)(d:E.length<100000)(x y:Int):
  qk (c.ts.map BH,(g:Int),c.dn,CS c.ds,c.ov,(c.st:Int),(c.idl:Int),E.map D4,x,y,()) =
   some ((stp g c (CO W x) (CO W y)).1.ts.map BH,(g:Int),(stp g c (CO W x) (CO W y)).1.dn,CS (stp g c (CO W x) (CO W y)).1.ds,(stp g c (CO W x) (CO W y)).1.ov,((stp g c (CO W x) (CO W y)).1.st:Int),((stp g c (CO W x) (CO W y)).1.idl:Int),
    (E++[(stp g c (CO W x) (CO W y)).2]).map D4,0,()):=by
 rw[qj,k9];have a:=AEU h x y;simp only[RC,Pj]at a;simp only[a];have b:ieq (0:Int) 0=true:=by rw[BB];rfl
 simp only[b,A6,ASZ,ASK,ASV];rw[CC (by omega)];simp only[Ej,ASz];rfl
end
theorem ACZ{W p:Nat}(h:p<W):CO W (p:Int)=p:=by
 unfold CO;have a:((p:Nat):Int).tmod (W:Int)=p:=Int.tmod_eq_of_lt (by omega) (by omega);rw[a];have b:((p:Int)+W).tmod W=p:=by rw[show(p:Int)+W=((p+W:Nat):Int) by omega,<- Int.ofNat_tmod];rw[Nat.add_mod_right,ATu h]
 omega
theorem AIX{W p:Nat}(a:1<=W):CO W (p:Int)=p % W:=by unfold CO;rw[<- Int.ofNat_tmod];have:=AUg p (show 0<W by omega);rw[show((p % W:Nat):Int)+W=((p % W+W:Nat):Int) by omega,<- Int.ofNat_tmod,Nat.add_mod_right,Nat.mod_mod];rfl
section
variable {g n W:Nat} {s:Crw×List Evt}
theorem AA4{t:Nat}(h:(BL g W s t).1.ov=false):BL g W s (t+1)=((stp g (BL g W s t).1 (t % W) ((t % W+1+t/W) % W)).1,(BL g W s t).2++[(stp g (BL g W s t).1 (t % W) ((t % W+1+t/W) % W)).2]):=by rw[BL];grind
theorem tQ(c:1<=g)(d:0<W)(h:StI n W s.1 s.2):∃ T,T<=(pot g s.1.ts s.1.ds.flatten+1)*W/\(BL g W s T).1.ov=true/\∀ t,t<T->(BL g W s t).1.ov=false:=by
 have e:=AA5 c d h;generalize f:(pot g s.1.ts s.1.ds.flatten+1)*W=b at e |-;clear f;have a:∀ k,k<=b->(∃ T,T<=b/\(BL g W s T).1.ov=true/\∀ t,t<T->(BL g W s t).1.ov=false)\/∀ t,t<k->(BL g W s t).1.ov=false:=by
  intro k;induction k with
   |zero=>simp
   |succ k i=>grind
 grind
theorem wa(y:1<=g)(z:g<=100)(A:1<=n)(B:n<=1000)(M:1<=W)(m:W<=8)(h:StI n W s.1 s.2)(C:s.2.length<=4000){T:Nat}(R:T<=(2*n+1)*W)(D:(BL g W s T).1.ov=true)(o:∀ t,t<T->(BL g W s t).1.ov=false):
  StI n W (BL g W s T).1 (BL g W s T).2/\(BL g W s T).2.length<=40000/\YI (s.1.ts.map BH,(g:Int),s.1.dn,CS s.1.ds,s.1.ov,(s.1.st:Int),(s.1.idl:Int),s.2.map D4,())=some ((BL g W s T).1.ts.map BH,(g:Int),(BL g W s T).1.dn,CS (BL g W s T).1.ds,(BL g W s T).1.ov,((BL g W s T).1.st:Int),((BL g W s T).1.idl:Int),(BL g W s T).2.map D4,0,()):=by
 have N:T<=17000:=by
  have:(2*n+1)*W<=2001*8:=ATz (by omega) m
  omega
 obtain⟨O,P⟩:=R0 y (by omega) h T
 refine⟨O,by omega,?_⟩
 have f:∀ t,t<=T->StI n W (BL g W s t).1 (BL g W s t).2/\(BL g W s t).2.length<100000:=fun t x=>by
  obtain⟨a,b⟩:=R0 y (by omega) h t
  grind
 have c:∀ t,t<=T->Cok g W (BL g W s t).1:=fun t x=>(f t x).1.cok y z A B M m (f t x).2
 have E:∀ t,t<T->¬ (BL g W s t).1.ds.flatten.length=0:=fun t x U=>by
  have:=(f t (by omega)).1.ov
  grind
 have d:∀ r j:Nat,j<W->r*W+j<T->EP ((BL g W s (r*W+j)).1.ts.map BH,(g:Int),(BL g W s (r*W+j)).1.dn,CS (BL g W s (r*W+j)).1.ds,(BL g W s (r*W+j)).1.ov,((BL g W s (r*W+j)).1.st:Int),((BL g W s (r*W+j)).1.idl:Int),(BL g W s (r*W+j)).2.map D4,(r:Int),(W:Int),(j:Int),()) =
   some (.inl ((BL g W s (r*W+(j+1))).1.ts.map BH,(g:Int),(BL g W s (r*W+(j+1))).1.dn,CS (BL g W s (r*W+(j+1))).1.ds,(BL g W s (r*W+(j+1))).1.ov,((BL g W s (r*W+(j+1))).1.st:Int),((BL g W s (r*W+(j+1))).1.idl:Int),(BL g W s (r*W+(j+1))).2.map D4,(r:Int),(W:Int),((j+1:Nat):Int),())):=by
  intro r j k i
  have F:r<=r*W:=AU5 _ (by omega)
  unfold EP
  dsimp only
  rw[A2,AR9 k]
  have p:=o _ i
  have G:=c _ (AT9 i)
  have C:=(f _ (AT9 i)).2
  have q:=AA4 p
  have H:=AEt G
  have I:=E _ i
  have hd:=gM G C
  rw[AUZ]at q
  rw[q]
  generalize BL g W s (r*W+j)=S at p G C H I hd
  simp only[RC,Pj,p]at H
  simp only[p]at hd
  simp only[p,H]
  rw[BB,AR8 (by omega)]
  rw[A5 (by omega),wrap_add (by omega)]
  simp only[hd]
  rw[BB,AR9 rfl]
  simp only[ASE]
  rw[ACZ k,AIX M]
  have V:(r*W+j) % W=j:=by rw[Nat.mul_comm,Nat.mul_add_mod,ATu k]
  have X:(r*W+j)/W=r:=by rw[Nat.mul_comm,Nat.mul_add_div (by omega),Nat.div_eq_of_lt k];omega
  grind
 have l:∀ r:Nat,(r+1)*W<=T->Fz ((BL g W s (r*W)).1.ts.map BH,(g:Int),(BL g W s (r*W)).1.dn,CS (BL g W s (r*W)).1.ds,(BL g W s (r*W)).1.ov,((BL g W s (r*W)).1.st:Int),((BL g W s (r*W)).1.idl:Int),(BL g W s (r*W)).2.map D4,(r:Int),()) =
   some (.inl ((BL g W s ((r+1)*W)).1.ts.map BH,(g:Int),(BL g W s ((r+1)*W)).1.dn,CS (BL g W s ((r+1)*W)).1.ds,(BL g W s ((r+1)*W)).1.ov,((BL g W s ((r+1)*W)).1.st:Int),((BL g W s ((r+1)*W)).1.idl:Int),(BL g W s ((r+1)*W)).2.map D4,((r+1:Nat):Int),())):=by
  intro r J
  have F:r<=r*W:=AU5 _ (by omega)
  rw[AUn]at J
  rw[Fz]
  have K:(CS (BL g W s (r*W)).1.ds).length=W:=by rw[Lg];exact(c (r*W) (by omega)).w
  have e:=GP (step:=EP) (fun j=>((BL g W s (r*W+j)).1.ts.map BH,(g:Int),(BL g W s (r*W+j)).1.dn,CS (BL g W s (r*W+j)).1.ds,(BL g W s (r*W+j)).1.ov,((BL g W s (r*W+j)).1.st:Int),((BL g W s (r*W+j)).1.idl:Int),(BL g W s (r*W+j)).2.map D4,(r:Int),(W:Int),(j:Int),())) W
   (.inr (.inl ((BL g W s (r*W+W)).1.ts.map BH,(g:Int),(BL g W s (r*W+W)).1.dn,CS (BL g W s (r*W+W)).1.ds,(BL g W s (r*W+W)).1.ov,((BL g W s (r*W+W)).1.st:Int),((BL g W s (r*W+W)).1.idl:Int),(BL g W s (r*W+W)).2.map D4,(r:Int),()))) (by omega)
   (fun j k=>d r j k (by omega)) (by unfold EP;dsimp only;rw[A2,AR8 (by omega)])
  simp only[ATe]at e
  have u:A9 EP many ((BL g W s (r*W)).1.ts.map BH,(g:Int),(BL g W s (r*W)).1.dn,CS (BL g W s (r*W)).1.ds,(BL g W s (r*W)).1.ov,((BL g W s (r*W)).1.st:Int),((BL g W s (r*W)).1.idl:Int),(BL g W s (r*W)).2.map D4,(r:Int),(W:Int),(0:Int),())=_:=e
  simp only[A6,K,u]
  rw[A5 (by omega),AUn]
 have v:Fz ((BL g W s (T/W*W)).1.ts.map BH,(g:Int),(BL g W s (T/W*W)).1.dn,CS (BL g W s (T/W*W)).1.ds,(BL g W s (T/W*W)).1.ov,((BL g W s (T/W*W)).1.st:Int),((BL g W s (T/W*W)).1.idl:Int),(BL g W s (T/W*W)).2.map D4,((T/W:Nat):Int),()) =
   some (.inr (.inl ((BL g W s T).1.ts.map BH,(g:Int),(BL g W s T).1.dn,CS (BL g W s T).1.ds,(BL g W s T).1.ov,((BL g W s T).1.st:Int),((BL g W s T).1.idl:Int),(BL g W s T).2.map D4,(0:Int),()))):=by
  have L:T/W*W+T % W=T:=by rw[Nat.mul_comm];exact Nat.div_add_mod T W
  have Q:=AUg T (show 0<W by omega)
  rw[Fz]
  have K:(CS (BL g W s (T/W*W)).1.ds).length=W:=by rw[Lg];exact(c (T/W*W) (by omega)).w
  have e:=GP (step:=EP) (fun j=>((BL g W s (T/W*W+j)).1.ts.map BH,(g:Int),(BL g W s (T/W*W+j)).1.dn,CS (BL g W s (T/W*W+j)).1.ds,(BL g W s (T/W*W+j)).1.ov,((BL g W s (T/W*W+j)).1.st:Int),((BL g W s (T/W*W+j)).1.idl:Int),(BL g W s (T/W*W+j)).2.map D4,((T/W:Nat):Int),(W:Int),(j:Int),())) (T % W)
   (.inl ((BL g W s T).1.ts.map BH,(g:Int),(BL g W s T).1.dn,CS (BL g W s T).1.ds,(BL g W s T).1.ov,((BL g W s T).1.st:Int),((BL g W s T).1.idl:Int),(BL g W s T).2.map D4,(0:Int),())) (by omega)
   (fun j k=>d (T/W) j (by omega) (by omega)) (by unfold EP;dsimp only;rw[L,A2,AR9 Q,D])
  simp only[ATe]at e
  have u:A9 EP many ((BL g W s (T/W*W)).1.ts.map BH,(g:Int),(BL g W s (T/W*W)).1.dn,CS (BL g W s (T/W*W)).1.ds,(BL g W s (T/W*W)).1.ov,((BL g W s (T/W*W)).1.st:Int),((BL g W s (T/W*W)).1.idl:Int),(BL g W s (T/W*W)).2.map D4,((T/W:Nat):Int),(W:Int),(0:Int),())=_:=e
  simp only[A6,K,u]
 rw[bS,VX]
 have e:=GP (step:=Fz) (fun r=>((BL g W s (r*W)).1.ts.map BH,(g:Int),(BL g W s (r*W)).1.dn,CS (BL g W s (r*W)).1.ds,(BL g W s (r*W)).1.ov,((BL g W s (r*W)).1.st:Int),((BL g W s (r*W)).1.idl:Int),(BL g W s (r*W)).2.map D4,(r:Int),())) (T/W) _ (by
   have:=AUy T W
   omega)
  (fun r J=>l r (ASs (ASw _ J) (Nat.div_mul_le_self T W))) v
 rw[AUA]at e
 have u:A9 Fz many ((BL g W s 0).1.ts.map BH,(g:Int),(BL g W s 0).1.dn,CS (BL g W s 0).1.ds,(BL g W s 0).1.ov,((BL g W s 0).1.st:Int),((BL g W s 0).1.idl:Int),(BL g W s 0).2.map D4,(0:Int),())=_:=e
 simp only[BL]at u
 simp_all
end
def cr0(n W:Nat):Crw:=⟨[⟨0,n,none,0⟩],List.replicate n false,[0]::List.replicate (W-1) [],false,0,0⟩
theorem gG(k:Nat):([0]::List.replicate k ([]:List Nat)).flatten=[0]:=by simp
theorem ARJ{n W:Nat}(e:1<=n)(f:1<=W):StI n W (cr0 n W) []:=by
 have d:(cr0 n W).ds.flatten=[0]:=gG _;have get:∀ {i:Nat} {t:Tsk},(cr0 n W).ts[i]? = some t->i=0/\t=⟨0,n,none,0⟩:=by intro i t h;have g:([⟨0,n,none,0⟩]:List Tsk)[i]? = some t:=h;grind
 refine⟨⟨0,?_⟩,?_,?_,?_,rfl,ATw _⟩;rw[d];refine⟨by simp[cr0],⟨fun i t b => ?_,by simp,fun a c => ?_,fun a c j t b => ?_,fun i t b => ?_⟩,?_,fun u k => ?_,rfl,ATw _⟩;grind;simp at c;subst c;exact⟨_,rfl,rfl⟩;grind;obtain⟨rfl,rfl⟩:=get b;have:kids (cr0 n W).ts [0] 0=0:=by rcases ATU (kids (cr0 n W).ts [0] 0)with h|h;exact h;obtain⟨j,t,l,m,_⟩:=OA.1 h;grind
 grind;have:([0]:List Nat).flatMap (rng (cr0 n W).ts)=List.range n:=by simp[rng,cr0,AUC]
 rw[this];simp[evU];have:(cr0 n W).dn[u]? = some false:=by show(List.replicate n false)[u]? = _;grind
 rw[this];simp[evU];rw[d];rfl;simp[cr0];omega;simp
theorem ADu{n:Nat}(h:n<=4294967296):Cq (n:Int)=true:=(I7 _).2 (by omega)
theorem Fa{n:Nat}(h:n<=4294967296):(Cq (n:Int)&&Cq (n:Int)&&ile (n:Int) (n:Int)&&true)=true:=by rw[ADu h,BM,AR9 (AVB _)];rfl
theorem Gj{α:Type}(n:Nat)(x:α):ED (A3 (n:Int)) x=List.replicate n x:=by rw[OU];rfl
theorem nH{g n:Nat}(c:1<=g)(a:g<=100)(d:1<=n)(b:n<=1000):Xq ((n:Int),(g:Int),())=some ((cr0 n 1).ts.map BH,(g:Int),List.replicate n false,0,()):=by rw[Yy,Tu];simp only[Pq,AR9 (show 1<=(n:Int)/\(n:Int)<=1000/\1<=(g:Int)/\(g:Int)<=100 by omega),ASE,Fa (show n<=4294967296 by omega),Gj];rfl
theorem xZ{g n W:Nat}(c:1<=g)(a:g<=100)(d:1<=n)(b:n<=1000)(l:1<=W)(e:W<=8):
  mF ((n:Int),(g:Int),(W:Int),())=some ((cr0 n W).ts.map BH,(g:Int),(cr0 n W).dn,CS (cr0 n W).ds,false,0,0,0,()):=by
 rw[gb,cE];have f:ieq (0:Int) 0=true:=by rw[BB];rfl
 have h:ilt (W:Int) 1=false:=by rw[BC];grind
 have i:ilt 8 (W:Int)=false:=by rw[BC];grind
 obtain⟨k,rfl⟩:∃ k,W=k+1:=⟨W-1,by omega⟩
 have j:idx (List.replicate (k+1) ()) (0:Int)=some ():=by rw[H8];rfl
 simp only[h,i,nH c a d b,f,ASE,Fa (show k+1<=4294967296 by omega),Gj,j];rw[CC (by decide)];simp only[ASy];have:Be (ED (k+1) ([]:List Int)) 0 [(0:Int)]=CS (cr0 n (k+1)).ds:=by show(List.replicate (k+1) ([]:List Int)).set 0 [0]=CS ([0]::List.replicate k []);rw[List.replicate_succ,List.set_cons_zero];unfold CS;rw[ASQ,List.map_replicate];rfl
 rw[this];rfl
def pkS(g W:Nat):List (List Int)->Crw×List Evt->Crw×List Evt
 |[],s=>s
 |x::l,s=>if s.1.ov then s else pkS g W l ((stp g s.1 (CO W (A_ x 0 0)) (CO W (A_ x 1 0))).1,s.2++[(stp g s.1 (CO W (A_ x 0 0)) (CO W (A_ x 1 0))).2])
theorem AHW{g n W:Nat}(c:1<=g)(b:1<=W):∀ (l:List (List Int)) (s:Crw×List Evt),StI n W s.1 s.2->StI n W (pkS g W l s).1 (pkS g W l s).2/\(pkS g W l s).2.length<=s.2.length+l.length/\pot g (pkS g W l s).1.ts (pkS g W l s).1.ds.flatten<=pot g s.1.ts s.1.ds.flatten:=by
 intro l;induction l with
  |nil=>intro s h;exact⟨h,by simp[pkS]⟩
  |cons x l d=>intro s h;rw[pkS];split;grind;obtain⟨e,a⟩:=iW c h (PD b (A_ x 0 0)) (PD b (A_ x 1 0));obtain⟨f,k,i⟩:=d ((stp g s.1 (CO W (A_ x 0 0)) (CO W (A_ x 1 0))).1,s.2++[(stp g s.1 (CO W (A_ x 0 0)) (CO W (A_ x 1 0))).2]) e;refine⟨f,by grind,ASs i ?_⟩;rcases a with⟨a,j,_⟩|a;simp only[a,j];exact ASG _;exact AT9 a
theorem AD5{g n W:Nat}(k:1<=g)(c:g<=100)(o:1<=n)(d:n<=1000)(f:1<=W)(h:W<=8){a:List (List Int)}(G:a.length<=4000){T:Nat}(y:T<=(2*n+1)*W)(b:(BL g W (pkS g W a (cr0 n W,[])) T).1.ov=true)(m:∀ t,t<T->(BL g W (pkS g W a (cr0 n W,[])) t).1.ov=false):
  StI n W (BL g W (pkS g W a (cr0 n W,[])) T).1 (BL g W (pkS g W a (cr0 n W,[])) T).2/\(BL g W (pkS g W a (cr0 n W,[])) T).2.length<=40000/\VW ((n:Int),(g:Int),(W:Int),a,())=some (RC g (BL g W (pkS g W a (cr0 n W,[])) T).1,(BL g W (pkS g W a (cr0 n W,[])) T).2.map D4,0,()):=by
 have p:=ARJ (n:=n) (W:=W) o f;obtain⟨z,H,_⟩:=AHW k f a (cr0 n W,[]) p;obtain⟨A,B,C⟩:=wa k c o d f h z (by grind) y b m;refine⟨A,B,?_⟩;rw[gL,bR];have q:ieq (0:Int) 0=true:=by rw[BB];rfl
 have e:=DL (step:=I9) (fun i (s:Crw×List Evt)=>((0:Int),false,(0:Int),(0:Int),s.1.ts.map BH,(g:Int),s.1.dn,CS s.1.ds,s.1.ov,(s.1.st:Int),(s.1.idl:Int),s.2.map D4,a,(a.length:Int),(i:Int),())) a
  (fun x s=>if s.1.ov then .inr (.inl ((0:Int),false,(0:Int),(0:Int),s.1.ts.map BH,(g:Int),s.1.dn,CS s.1.ds,s.1.ov,(s.1.st:Int),(s.1.idl:Int),s.2.map D4,()))else .inl ((stp g s.1 (CO W (A_ x 0 0)) (CO W (A_ x 1 0))).1,s.2++[(stp g s.1 (CO W (A_ x 0 0)) (CO W (A_ x 1 0))).2]))
  (fun s=>.inl ((0:Int),false,(0:Int),(0:Int),s.1.ts.map BH,(g:Int),s.1.dn,CS s.1.ds,s.1.ov,(s.1.st:Int),(s.1.idl:Int),s.2.map D4,()))
  (fun i s=>StI n W s.1 s.2/\s.2.length<=i) (by omega)
  (fun i x s hi u v=>by
   have j:I9 ((0:Int),false,(0:Int),(0:Int),s.1.ts.map BH,(g:Int),s.1.dn,CS s.1.ds,s.1.ov,(s.1.st:Int),(s.1.idl:Int),s.2.map D4,a,(a.length:Int),(i:Int),())=match s.1.ov with
     |true=>some (.inr (.inl ((0:Int),false,(0:Int),(0:Int),s.1.ts.map BH,(g:Int),s.1.dn,CS s.1.ds,s.1.ov,(s.1.st:Int),(s.1.idl:Int),s.2.map D4,())))
     |false=>some (.inl ((0:Int),false,(0:Int),(0:Int),(stp g s.1 (CO W (A_ x 0 0)) (CO W (A_ x 1 0))).1.ts.map BH,(g:Int),(stp g s.1 (CO W (A_ x 0 0)) (CO W (A_ x 1 0))).1.dn,CS (stp g s.1 (CO W (A_ x 0 0)) (CO W (A_ x 1 0))).1.ds,(stp g s.1 (CO W (A_ x 0 0)) (CO W (A_ x 1 0))).1.ov,((stp g s.1 (CO W (A_ x 0 0)) (CO W (A_ x 1 0))).1.st:Int),((stp g s.1 (CO W (A_ x 0 0)) (CO W (A_ x 1 0))).1.idl:Int),(s.2++[(stp g s.1 (CO W (A_ x 0 0)) (CO W (A_ x 1 0))).2]).map D4,a,(a.length:Int),((i+1:Nat):Int),())):=by
    unfold I9
    dsimp only
    have hd:=gM (v.1.cok k c o d f h (by omega)) (E:=s.2) (by omega) (A_ x 0 0) (A_ x 1 0)
    cases b:s.1.ov with
    |true=>simp only[A2,AR9 hi,A' u]
    |false=>
     rw[b]at hd
     simp only[A2,AR9 hi,A' u,hd,q,ASE]
     rw[A5 (by omega)]
   rw[j]
   cases b:s.1.ov with
   |true=>
    simp
   |false=>
    refine⟨fun I w => ?_,fun r J=>by grind⟩
    simp only[ASR,ASX,Sum.inl.injEq]at w
    subst w
    refine⟨rfl,(iW k v.1 (PD f (A_ x 0 0)) (PD f (A_ x 1 0))).1,?_⟩
    grind)
  (fun s _=>by
   unfold I9
   dsimp only
   rw[A2,AR8 (by omega)])
  (cr0 n W,[]) ⟨p,ASG _⟩
 have D:∀ (l:List (List Int)) (s:Crw×List Evt),walk (ρ:=((Int×Bool×Int×Int×List TkI×Int×List Bool×List (List Int)×Bool×Int×Int×List EvI×Unit)⊕(List TkI×Int×List Bool×List (List Int)×Bool×Int×Int×List EvI×Int×Unit)⊕Unit)) (fun x s=>if s.1.ov then .inr (.inl ((0:Int),false,(0:Int),(0:Int),s.1.ts.map BH,(g:Int),s.1.dn,CS s.1.ds,s.1.ov,(s.1.st:Int),(s.1.idl:Int),s.2.map D4,()))else .inl ((stp g s.1 (CO W (A_ x 0 0)) (CO W (A_ x 1 0))).1,s.2++[(stp g s.1 (CO W (A_ x 0 0)) (CO W (A_ x 1 0))).2]))
  (fun s=>.inl ((0:Int),false,(0:Int),(0:Int),s.1.ts.map BH,(g:Int),s.1.dn,CS s.1.ds,s.1.ov,(s.1.st:Int),(s.1.idl:Int),s.2.map D4,())) l s =
   .inl ((0:Int),false,(0:Int),(0:Int),(pkS g W l s).1.ts.map BH,(g:Int),(pkS g W l s).1.dn,CS (pkS g W l s).1.ds,(pkS g W l s).1.ov,((pkS g W l s).1.st:Int),((pkS g W l s).1.idl:Int),(pkS g W l s).2.map D4,()):=by
  intro l
  induction l with
  |nil=>intro s;rfl
  |cons x l K=>
   intro s
   rw[walk,pkS]
   grind
 rw[D]at e;have F:A9 I9 many ((0:Int),false,(0:Int),(0:Int),(cr0 n W).ts.map BH,(g:Int),(cr0 n W).dn,CS (cr0 n W).ds,false,(0:Int),(0:Int),([]:List EvI),a,(a.length:Int),(0:Int),())=_:=e;simp only[xZ k c o d f h,q,ASE,A6,F,C];rfl
theorem ARz(g:Nat){n W:Nat}(a:1<=n)(b:1<=W):pot g (cr0 n W).ts (cr0 n W).ds.flatten=tkN g n:=by
 obtain⟨k,rfl⟩:∃ k,W=k+1:=⟨W-1,by omega⟩
 show pot g (cr0 n (k+1)).ts (([0]::List.replicate k ([]:List Nat)).flatten)=_;rw[gG];simp[pot,Pg,cr0]
theorem wV{g n W:Nat}(e:1<=g)(i:g<=100)(f:1<=n)(j:n<=1000)(h:1<=W)(k:W<=8){a:List (List Int)}(m:a.length<=4000):
  ∃ b:Crw×List Evt,StI n W b.1 b.2/\b.1.ov=true/\b.2.length<=40000/\b.2.length<=a.length+(tkN g n+1)*W/\VW ((n:Int),(g:Int),(W:Int),a,())=some (RC g b.1,b.2.map D4,0,()):=by obtain⟨l,o,p⟩:=AHW e h a (cr0 n W,[]) (ARJ f h);rw[ARz g f h]at p;obtain⟨T,q,c,d⟩:=tQ e (by omega) l;have:=APj g n f;obtain⟨r,s,t⟩:=AD5 e i f j h k m (ASs q (ASw _ (by omega))) c d;refine⟨_,r,c,s,?_,t⟩;have u:=(R0 e (by omega) l T).2;have v:=ASw W (show pot g (pkS g W a (cr0 n W,[])).1.ts (pkS g W a (cr0 n W,[])).1.ds.flatten+1<=tkN g n+1 by omega);simp only[ASV]at o;omega
def KJ(ts:List Tsk)(e:Evt):Option (Nat×Nat):=match e.ft with
 |some (_,t)=>if e.pt then none else ts[t]?.map fun k=>(k.lo,k.hi)
 |none=>none
def qd(p:Nat×Nat):Int×Int×Unit:=((p.1:Int),(p.2:Int),())
theorem qn{g n W:Nat}{s:Crw×List Evt}(h:StI n W s.1 s.2)(u:s.2.length<=40000):YK (RC g s.1,s.2.map D4,())=some ((s.2.filterMap (KJ s.1.ts)).map qd,()):=by
 rw[bW,VY]
 have e:=GP (step:=Jt) (fun i=>(s.1.ts.map BH,(g:Int),s.1.dn,CS s.1.ds,s.1.ov,(s.1.st:Int),(s.1.idl:Int),((s.2.take i).filterMap (KJ s.1.ts)).map qd,s.2.map D4,(s.2.length:Int),(i:Int),())) s.2.length (.inl ((s.2.filterMap (KJ s.1.ts)).map qd,())) (by omega)
  (fun i hi=>by
   unfold Jt
   dsimp only
   have j:=ASI hi
   have a:=h.ev s.2[i] (ASu hi)
   have c:s.2.take (i+1)=s.2.take i++[s.2[i]]:=by simp
   have l:((s.2.take i).filterMap (KJ s.1.ts)).length<=40000:=by
    grind
   rw[c,List.filterMap_append,ASz]
   have b:idx (s.2.map D4) (i:Int)=some (D4 s.2[i]):=A' (by grind)
   simp only[A2,AR9 hi,b]
   generalize s.2[i]=x at a b
   obtain⟨w,d,m⟩:=x
   rw[A5 (by omega)]
   cases m with
   |true=>
    have:KJ s.1.ts ⟨w,d,true⟩=none:=by unfold KJ;grind
    simp only[D4,AUX,this,List.filterMap_nil,ATk,ATM]
   |false=>
    cases d with
    |none=>
     have:KJ s.1.ts ⟨w,none,false⟩=none:=rfl
     simp only[D4,AUX,this,List.filterMap_nil,ATk,ATM]
     rw[BC,AR9 (by decide)]
    |some q=>
     obtain⟨f,t⟩:=q
     have o:=a f t rfl
     obtain⟨k,p⟩:∃ k,s.1.ts[t]? = some k:=⟨_,ASI o⟩
     have:KJ s.1.ts ⟨w,some (f,t),false⟩=some (k.lo,k.hi):=by
      show(if false=true then none else s.1.ts[t]?.map _)=_
      grind
     simp only[D4,AUX,this,List.filterMap_nil]
     rw[BC,AR8 (by omega),A6,ASZ,Dq,AR8 (by omega),A' (Hh p),A6,ASZ]
     simp only[A6,ASK,ASV]
     rw[CC (by omega)]
     simp only[Ej]
     rfl)
  (by unfold Jt;dsimp only;rw[A2,AR8 (by omega),ASc])
 have r:A9 Jt many (s.1.ts.map BH,(g:Int),s.1.dn,CS s.1.ds,s.1.ov,(s.1.st:Int),(s.1.idl:Int),([]:List (Int×Int×Unit)),s.2.map D4,(s.2.length:Int),(0:Int),())=_:=e;simp only[RC,Pj,A6,ASZ,r]
def Pr(p:Nat×Nat):List Nat:=List.range' p.1 (p.2-p.1)
theorem tC(ts:List Tsk)(E:List Evt):(E.filterMap (KJ ts)).flatMap Pr=evU ts E:=by
 induction E with
  |nil=>rfl
  |cons e E a=>
   have:evU ts (e::E)=evU ts [e]++evU ts E:=by rw[<- YF];rfl
   rw[this,<- a];obtain⟨w,b,c⟩:=e;cases b with
    |none=>rw[AUX];simp[KJ,evU]
    |some q=>
     obtain⟨f,t⟩:=q;rw[AUX];cases c with
      |true=>simp[KJ,evU]
      |false=>
       simp only[KJ,evU,ASR,ASX,ATT,List.flatMap_nil,ATM,rng];cases ts[t]? with
        |none=>rfl
        |some k=>simp[Pr]
theorem dV(c:List EvI)(a:List Int)(b hi:Nat)(d:List (Int×Int×Unit))(f g:Int)(k:b<=hi)(l:hi<=1000)(j:a.length<=1000000):
  A9 Lb many (c,a,(b:Int),(hi:Int),d,f,g,((hi-b:Nat):Int),(0:Int),())=some (.inl (c,a++nI (List.range' b (hi-b)),d,f,g,())):=by
 have e:=GP (step:=Lb) (fun i=>(c,a++nI (List.range' b i),(b:Int),(hi:Int),d,f,g,((hi-b:Nat):Int),(i:Int),())) (hi-b) (.inl (c,a++nI (List.range' b (hi-b)),d,f,g,())) (by omega)
  (fun i h=>by
   unfold Lb
   dsimp only
   rw[A2,AR9 h,wrap_add (by omega),A5 (by omega),A6,A6]
   simp only[ASN,Ch,List.length_range',ASK,ASV]
   rw[CC (by omega)]
   simp only[Ej,ATo]
   rw[List.range'_concat]
   unfold nI
   simp)
  (by unfold Lb;dsimp only;rw[A2,AR8 (by omega)])
 have:a++nI (List.range' b 0)=a:=by simp[nI]
 grind
theorem RA(a b:Int)(c:List (List Int)):kZ ((a,b,c,()),())=some (decide (1<=a/\a<=100/\1<=b/\b<=8/\c.length<=4000),()):=by
 rw[fv,bB];simp only[BM,A6];by_cases d:1<=a;by_cases e:a<=100;by_cases f:1<=b;by_cases g:b<=8;have:decide ((c.length:Int)<=4000)=decide (c.length<=4000):=by grind
 grind;grind;grind;grind;grind
def Ek(p:Int×Int×List (List Int)×Unit):Prop:=1<=p.1/\p.1<=100/\1<=p.2.1/\p.2.1<=8/\p.2.2.1.length<=4000
instance (p:Int×Int×List (List Int)×Unit):Decidable (Ek p):=by unfold Ek;exact inferInstance
theorem bD{n:Int}{p:Int×Int×List (List Int)×Unit}(h:¬ (0<=n/\n<=1000/\Ek p)):C4 (n,p,())=some ([],0,1,()):=by rw[PS,OL];by_cases a:n<0;rw[BC,AR9 a];rw[BC,AR8 a];by_cases b:1000<n;rw[BC,AR9 b];rw[BC,AR8 b];have c:¬ Ek p:=fun d=>h ⟨by omega,by omega,d⟩;simp only[RA];rw[AR8 (by unfold Ek at c;exact c)];simp
theorem Wx{p:Int×Int×List (List Int)×Unit}(a:Ek p):C4 ((0:Int),p,())=some ([],0,0,()):=by rw[PS,OL];rw[BC,AR8 (by decide),BC,AR8 (by decide)];simp only[RA];rw[AR9 (by unfold Ek at a;exact a),BB,AR9 rfl];simp
theorem ADs{g n W:Nat}(O:1<=g)(C:g<=100)(P:1<=n)(E:n<=1000)(Q:1<=W)(F:W<=8){a:List (List Int)}(R:a.length<=4000){s:Crw×List Evt}(o:StI n W s.1 s.2)(G:s.1.ov=true)(H:s.2.length<=40000)(x:VW ((n:Int),(g:Int),(W:Int),a,())=some (RC g s.1,s.2.map D4,0,())):
  (evU s.1.ts s.2).Perm (List.range n)/\1<=s.2.length/\C4 ((n:Int),((g:Int),(W:Int),a,()),())=some (nI (evU s.1.ts s.2),(s.2.length:Int),0,()):=by
 have y:=o.done G;have b:=y.length_eq;rw[ASP]at b;refine⟨y,?_,?_⟩;rcases ATU s.2.length with z|z;rw[ASm z]at b;simp[evU]at b;omega;omega;rw[PS,OL];rw[BC,AR8 (by omega),BC,AR8 (by omega)];have I:ieq (0:Int) 0=true:=by rw[BB];rfl
 have j:=qn (g:=g) o H;simp only[RC,Pj]at j x;simp only[RA,AR9 (show 1<=(g:Int)/\(g:Int)<=100/\1<=(W:Int)/\(W:Int)<=8/\a.length<=4000 by omega),ASE];rw[BB,AR8 (by omega)];simp only[x,I,ASE,j];generalize A:s.2.filterMap (KJ s.1.ts)=S;have p:S.flatMap Pr=evU s.1.ts s.2:=by rw[<- A];exact tC _ _
 have J:S.length<=40000:=by grind
 have r:∀ q∈S,q.1<=q.2/\q.2<=1000:=by
  intro q d;rw[<- A,List.mem_filterMap]at d;obtain⟨e,T,d⟩:=d;obtain⟨D,K⟩:=o.iv;unfold KJ at d;split at d;rename_i f t L;split at d;cases d;cases B:s.1.ts[t]? with
   |none=>grind
   |some k=>rw[B]at d;simp only[AUI,ASA]at d;subst d;have:=K.tr.tree t k B;omega
  grind
 have l:∀ i,i<=S.length->((S.take i).flatMap Pr).length<=1000:=by
  intro i _;have U:((S.take i).flatMap Pr).length<=(S.flatMap Pr).length:=by
   conv=>rhs;rw[<- AS8 i S,ATS,ASN]
   omega
  grind
 have e:=GP (step:=Lc) (fun i=>(s.2.map D4,nI ((S.take i).flatMap Pr),S.map qd,(S.length:Int),(i:Int),())) S.length (.inl (s.2.map D4,nI (S.flatMap Pr),())) (by omega)
  (fun i hi=>by
   unfold Lc
   dsimp only
   have M:=ASI hi
   obtain⟨u,v⟩:=r _ (ASu hi)
   have w:S.take (i+1)=S.take i++[S[i]]:=by simp
   have h:(S.map qd)[i]? = some (qd S[i]):=by grind
   have V:=l i (by omega)
   rw[w,ATS]
   generalize S[i]=q at u v h
   obtain⟨m,c⟩:=q
   simp only[A2,AR9 hi,A' h,Bm h,qd]
   simp only at u v
   rw[BG (show -9223372036854775808<=(c:Int)-m/\(c:Int)-m<=9223372036854775807 by omega),show(c:Int)-m=((c-m:Nat):Int) by omega]
   simp only[dV _ _ m c _ _ _ u v (show(nI ((S.take i).flatMap Pr)).length<=1000000 by rw[Ch];omega)]
   rw[A5 (by omega)]
   unfold nI
   rw[ASz]
   simp[Pr])
  (by unfold Lc;dsimp only;rw[A2,AR8 (by omega),ASc])
 have N:A9 Lc many (s.2.map D4,([]:List Int),S.map qd,(S.length:Int),(0:Int),())=_:=e;simp only[A6,ASZ,N,p]
theorem wG{n:Nat}(f:1<=n)(c:n<=1000){p:Int×Int×List (List Int)×Unit}(i:Ek p):∃ (U:List Nat) (k:Nat),U.Perm (List.range n)/\1<=k/\k<=40000/\k<=p.2.2.1.length+(tkN p.1.toNat n+1)*p.2.1.toNat/\C4 ((n:Int),p,())=some (nI U,(k:Int),0,()):=by obtain⟨a,b,d,u⟩:=p;obtain⟨j,l,m,o,e⟩:=i;simp only at j l m o e;obtain⟨g,rfl⟩:=ASD (show 0<=a by omega);obtain⟨W,rfl⟩:=ASD (show 0<=b by omega);obtain⟨s,q,r,h,t,v⟩:=wV (g:=g) (n:=n) (W:=W) (by omega) (by omega) f c (by omega) (by omega) e;obtain⟨w,x,y⟩:=ADs (by omega) (by omega) f c (by omega) (by omega) e q r h v;exact⟨_,_,w,x,h,t,y⟩
theorem xu(a b:Int):IntKind.wrap .u32 (a+b)=(a+b) % 4294967296:=by rw[IntKind.wrap_u32]
def sm(xs:List Int):Int:=xs.sum % 4294967296
def ahL(xs:List Int):List Int:=(List.range xs.length).map fun i=>sm (xs.take i)
theorem AGP(xs ys:List Int):sm (xs++ys)=(sm xs+sm ys) % 4294967296:=by unfold sm;simp
theorem iZ(xs:List Int)(x:Int):sm (xs++[x])=(sm xs+x) % 4294967296:=by unfold sm;simp
def NK{α:Type}(N:Nat)(f:Nat->α)(z:α)(i:Nat):List α:=(List.range N).map fun j=>if j<i then f j else z
theorem UQ{α:Type}(N:Nat)(f:Nat->α)(z:α):NK N f z 0=List.replicate N z:=by unfold NK;apply AUV (by simp);simp
theorem Z8{α:Type}(N:Nat)(f:Nat->α)(z:α):NK N f z N=(List.range N).map f:=by unfold NK;simp_all
theorem N2{α:Type}(N:Nat)(f:Nat->α)(z:α)(i:Nat):(NK N f z i).length=N:=by simp[NK]
theorem Z7{α:Type}(N:Nat)(f:Nat->α)(z:α)(i j:Nat):(NK N f z i)[j]? = if j<N then some (if j<i then f j else z)else none:=by unfold NK;grind
theorem Z6{α:Type}{N:Nat}(f:Nat->α)(z:α){i:Nat}:(NK N f z i).set i (f i)=NK N f z (i+1):=by apply ATB;intro j;rw[AUP,Z7,Z7,N2];grind
theorem Cr{α:Type}{xs:List α}{i:Nat}{x:α}(h:xs[i]? = some x):xs.take (i+1)=xs.take i++[x]:=by rw[ATc,h];rfl
theorem Ca{α:Type}{xs:List α}{i:Nat}(h:i<xs.length):∃ x,xs[i]? = some x:=⟨_,ASI h⟩
theorem QT(xs:List Int)(d:xs.length<=1000000):T9 (xs,())=some (ahL xs,sm xs,()):=by
 rw[ew,ZO]
 have e:=GP (step:=LG) (fun i=>(NK xs.length (fun j=>sm (xs.take j)) (0:Int) i,sm (xs.take i),xs,(xs.length:Int),(i:Int),())) xs.length (.inl (ahL xs,sm xs,())) (by omega)
  (fun i hi=>by
   obtain⟨x,a⟩:=Ca hi
   obtain⟨y,b⟩:=Ca (xs:=NK xs.length (fun j=>sm (xs.take j)) (0:Int) i) (i:=i) (by rw[N2];exact hi)
   rw[LG,A2,AR9 hi]
   simp only[A' a,A' b,DX,Z6,xu]
   rw[A5 (by omega),Cr a,iZ])
  (by rw[LG,A2,AR8 (by omega),Z8,ASc];rfl)
 rw[UQ]at e;have c:A9 LG many (List.replicate xs.length (0:Int),(0:Int),xs,(xs.length:Int),(0:Int),())=_:=e;simp only[A6,Fa (show xs.length<=4294967296 by omega),Gj,c]
theorem AJi{α:Type}(f:Nat->α):∀ (U:List Nat) (a:List α) (j:Nat),(U.foldl (fun a i=>a.set i (f i)) a)[j]? = if j∈U/\j<a.length then some (f j)else a[j]? := by
 intro U;induction U with
  |nil=>simp
  |cons u U b=>intro a j;rw[AS2,b,ATp];grind
theorem Mr{α:Type}(f:Nat->α)(U:List Nat):∀ (a:List α),(U.foldl (fun a i=>a.set i (f i)) a).length=a.length:=by
 induction U with
  |nil=>simp
  |cons u U b=>grind
theorem qR{α:Type}{f:Nat->α}{U:List Nat}{N:Nat}(b:∀ j,j<N->j∈U)(z:α):U.foldl (fun a i=>a.set i (f i)) (List.replicate N z)=(List.range N).map f:=by apply ATB;intro j;rw[AJi,ASy];grind
def nbl(n b:Nat):Nat:=(n+b-1)/b
theorem aC{n b i:Nat}(a:1<=b):i<nbl n b↔i*b<n:=by unfold nbl;rw[Nat.lt_div_iff_mul_lt (by omega)];omega
theorem US{n b:Nat}(a:1<=b):nbl n b<=n:=by
 rcases ATU n with h|h;subst h;unfold nbl;rw[Nat.div_eq_of_lt (by omega)];omega;have:¬ n<nbl n b:=by rw[aC a];have:n*1<=n*b:=Nat.mul_le_mul_left n a;omega
 omega
theorem T5(b:Int):Y5 (b,())=some (decide (1<=b/\b<=100),()):=by rw[eY,Y4,BM];by_cases a:1<=b;rw[AR9 a,BM];simp[a];grind
theorem Wc{n b:Nat}(c:n<=1000)(d:1<=b)(a:b<=100):Xx ((n:Int),(b:Int),())=some ((nbl n b:Int),()):=by rw[ZF,T8];rw[BC,AR8 (by omega),BC,AR8 (by omega)];simp only[T5,AR9 (show 1<=(b:Int)/\(b:Int)<=100 by omega),ASE];rw[wrap_add (by omega),B1 (by omega),QY,jP,ASH (by omega),<- Int.ofNat_tdiv];have:(n+b-1)/b<=2000:=ASs (AUy _ _) (by omega);unfold nbl;generalize (n+b-1)/b=q at this;rw[YU (by omega)]
def blk(xs:List Int)(b i:Nat):List Int:=(xs.take (min xs.length ((i+1)*b))).drop (i*b)
theorem ea{xs:List Int}{b i:Nat}(g:xs.length<=1000)(a:b<=100)(hi:i*b<=xs.length)(c:i<=1000):nM (xs,(i:Int),(b:Int),())=some (blk xs b i,()):=by
 rw[nL,iY];have h:i*b<=100000:=ATz c a;have j:(i+1)*b=i*b+b:=AUn i b;have d:w64 ((i:Int)*(b:Int))=((i*b:Nat):Int):=by rw[<- AUz,BG (by omega)]
 have e:w64 (w64 ((i:Int)+1)*(b:Int))=(((i+1)*b:Nat):Int):=by rw[A5 (by omega),<- AUz,BG (by omega)]
 have f:C7 (xs.length:Int) (((i+1)*b:Nat):Int)=((min xs.length ((i+1)*b):Nat):Int):=by unfold C7;omega
 simp only[A6,d,e,f];rw[Tv (by omega) (Nat.min_le_left ..)];rfl
theorem rh{xs:List Int}{b i k:Nat}(a:i*b+k<=(i+1)*b):xs.take (i*b+k)=xs.take (i*b)++(blk xs b i).take k:=by rw[List.take_add];congr 1;unfold blk;apply ATB;grind
theorem TQ{xs:List Int}{b i:Nat}:(blk xs b i).length=min xs.length ((i+1)*b)-i*b:=by unfold blk;simp
theorem AMA{xs:List Int}{b i:Nat}:sm (xs.take ((i+1)*b))=(sm (xs.take (i*b))+sm (blk xs b i)) % 4294967296:=by have a:(i+1)*b=i*b+b:=AUn i b;have h:=rh (xs:=xs) (b:=b) (i:=i) (k:=b) (by omega);rw[<- a]at h;rw[h,AGP];congr 2;rw[AS4 (by rw[TQ];omega)]
theorem WT(xs:List Int)(b N:Nat):∀ i,i<=N->sm (((List.range N).map fun i=>sm (blk xs b i)).take i)=sm (xs.take (i*b)):=by
 intro i;induction i with
  |zero=>simp
  |succ i a=>intro hi;rw[Cr (x:=sm (blk xs b i)) (by grind),iZ,a (by omega),AMA]
theorem jr{l:List Nat}{i x:Nat}(h:l[i]? = some x):idx (nI l) (i:Int)=some (x:Int)/\A_ (nI l) (A3 (i:Int)) (0:Int)=(x:Int):=⟨A' (Ew h),Bm (Ew h)⟩
section
variable {xs:List Int} {b:Nat} (hl:xs.length<=1000) (hb:1<=b) (hb2:b<=100)
include hl hb hb2
theorem ARw{U:List Nat}{N:Nat}(m:N=nbl xs.length b)(d:U.Perm (List.range N))(k:Int):
  A9 JK many (xs,(b:Int),k,nI U,List.replicate N (0:Int),(U.length:Int),(0:Int),())=some (.inl (xs,(b:Int),k,nI U,(List.range N).map (fun i=>sm (blk xs b i)),())):=by
 have n:N<=1000:=by rw[m];exact ASs (US hb) hl
 have f:=d.length_eq;rw[ASP]at f
 have e:=GP (step:=JK) (fun i=>(xs,(b:Int),k,nI U,(U.take i).foldl (fun a i=>a.set i (sm (blk xs b i))) (List.replicate N (0:Int)),(U.length:Int),(i:Int),())) U.length (.inl (xs,(b:Int),k,nI U,(List.range N).map (fun i=>sm (blk xs b i)),())) (by omega)
  (fun i hi=>by
   obtain⟨u,g⟩:=Ca hi
   have c:u<N:=ASb.1 (d.mem_iff.1 (ASJ g))
   have h:u*b<xs.length:=(aC hb).1 (m▸c)
   obtain⟨o,p⟩:=jr g
   obtain⟨y,q⟩:=Ca (xs:=(U.take i).foldl (fun a i=>a.set i (sm (blk xs b i))) (List.replicate N (0:Int))) (i:=u) (by rw[Mr,ASy];exact c)
   have l:(blk xs b u).length<=1000000:=by rw[TQ];omega
   rw[JK,A2,AR9 hi]
   simp only[o,p,ea hl hb2 (AT9 h) (by omega),QT _ l,A' q,DX]
   rw[A5 (by omega),Cr g,ATN]
   rfl)
  (by
   rw[JK,A2,AR8 (by omega),ASc,qR fun j r=>d.mem_iff.2 (ASb.2 r)])
 exact e
theorem ARu{i N:Nat}(hi:i<N)(l:i*b<xs.length)(v:N<=1000)(out:List Int)(m:out.length=xs.length)(tot k:Int)(f:List Int)(g d:Int):
  A9 JI many (xs,(b:Int),out,tot,k,(List.range N).map (fun i=>sm (xs.take (i*b))),(i:Int),f,g,d,ahL (blk xs b i),((blk xs b i).length:Int),(0:Int),()) =
   some (.inl (xs,(b:Int),(List.range' (i*b) (blk xs b i).length).foldl (fun a p=>a.set p (sm (xs.take p))) out,tot,k,(List.range N).map (fun i=>sm (xs.take (i*b))),f,g,d,())):=by
 have w:(i+1)*b=i*b+b:=AUn i b;have n:=TQ (xs:=xs) (b:=b) (i:=i);have o:(ahL (blk xs b i)).length=(blk xs b i).length:=by simp[ahL]
 have c:((List.range N).map (fun i=>sm (xs.take (i*b))))[i]? = some (sm (xs.take (i*b))):=by grind
 have e:=GP (step:=JI) (fun j=>(xs,(b:Int),(List.range' (i*b) j).foldl (fun a p=>a.set p (sm (xs.take p))) out,tot,k,(List.range N).map (fun i=>sm (xs.take (i*b))),(i:Int),f,g,d,ahL (blk xs b i),((blk xs b i).length:Int),(j:Int),())) (blk xs b i).length
  (.inl (xs,(b:Int),(List.range' (i*b) (blk xs b i).length).foldl (fun a p=>a.set p (sm (xs.take p))) out,tot,k,(List.range N).map (fun i=>sm (xs.take (i*b))),f,g,d,())) (by omega)
  (fun j q=>by
   have h:(ahL (blk xs b i))[j]? = some (sm ((blk xs b i).take j)):=by
    unfold ahL
    grind
   have r:w64 (w64 ((i:Int)*(b:Int))+(j:Int))=((i*b+j:Nat):Int):=by
    have s:w64 ((i:Int)*(b:Int))=((i*b:Nat):Int):=by rw[<- AUz,BG (by omega)]
    rw[s,wrap_add (by omega)]
   obtain⟨y,t⟩:=Ca (xs:=(List.range' (i*b) j).foldl (fun a p=>a.set p (sm (xs.take p))) out) (i:=i*b+j) (by rw[Mr,m];omega)
   have u:IntKind.wrap .u32 (sm (xs.take (i*b))+sm ((blk xs b i).take j))=sm (xs.take (i*b+j)):=by
    rw[xu,rh (by omega),AGP]
   rw[JI,A2,AR9 q]
   simp only[A' h,Bm h,A' c,Bm c,r,A' t,DX,u]
   rw[A5 (by omega),List.range'_concat,ATN]
   simp)
  (by rw[JI,A2,AR8 (by omega)])
 exact e
theorem ARv{U:List Nat}{N:Nat}(g:N=nbl xs.length b)(h:U.Perm (List.range N))(tot k:Int):
  A9 JJ many (xs,(b:Int),List.replicate xs.length (0:Int),tot,k,(List.range N).map (fun i=>sm (xs.take (i*b))),nI U,(U.length:Int),(0:Int),())=some (.inl (ahL xs,tot,k,())):=by
 have l:N<=1000:=by rw[g];exact ASs (US hb) hl
 have m:=h.length_eq;rw[ASP]at m
 have e:=GP (step:=JJ) (fun i=>(xs,(b:Int),((U.take i).flatMap fun i=>List.range' (i*b) (blk xs b i).length).foldl (fun a p=>a.set p (sm (xs.take p))) (List.replicate xs.length (0:Int)),tot,k,(List.range N).map (fun i=>sm (xs.take (i*b))),nI U,(U.length:Int),(i:Int),())) U.length (.inl (ahL xs,tot,k,())) (by omega)
  (fun i hi=>by
   obtain⟨u,n⟩:=Ca hi
   have c:u<N:=ASb.1 (h.mem_iff.1 (ASJ n))
   have d:u*b<xs.length:=(aC hb).1 (g▸c)
   obtain⟨s,t⟩:=jr n
   have o:(blk xs b u).length<=1000000:=by rw[TQ];omega
   have q:(ahL (blk xs b u)).length=(blk xs b u).length:=by simp[ahL]
   rw[JJ,A2,AR9 hi]
   simp only[s,t,ea hl hb2 (AT9 d) (by omega),QT _ o,A6,q]
   have r:=ARu hl hb hb2 c d l (((U.take i).flatMap fun i=>List.range' (i*b) (blk xs b i).length).foldl (fun a p=>a.set p (sm (xs.take p))) (List.replicate xs.length (0:Int))) (by rw[Mr,ASy]) tot k (nI U) (U.length:Int) (i:Int)
   simp only[r]
   rw[A5 (by omega),Cr n,ATS,ATN]
   simp)
  (by
   rw[JJ,A2,AR8 (by omega),ASc]
   have:∀ j,j<xs.length->j∈U.flatMap fun i=>List.range' (i*b) (blk xs b i).length:=by
    intro j v
    have s:j/b*b<=j:=Nat.div_mul_le_self j b
    have t:j<(j/b+1)*b:=by
     rw[AUn]
     have w:j/b*b+j % b=j:=by rw[Nat.mul_comm];exact Nat.div_add_mod j b
     have:=AUg j (show 0<b by omega)
     omega
    refine AT5.2 ⟨j/b,h.mem_iff.2 (ASb.2 (by rw[g,aC hb];omega)),?_⟩
    rw[List.mem_range'_1,TQ]
    omega
   rw[qR (f:=fun p=>sm (xs.take p)) this]
   rfl)
 exact e
theorem eW{p:Int×Int×List (List Int)×Unit}{U:List Nat}{k:Nat}(o:k<=40000)(g:U.Perm (List.range (nbl xs.length b)))(h:C4 ((nbl xs.length b:Int),p,())=some (nI U,(k:Int),0,())):
  eX (xs,(b:Int),p,())=some (ahL xs,sm xs,((2*k:Nat):Int),0,()):=by
 have j:nbl xs.length b<=1000:=ASs (US hb) hl;have l:ieq (0:Int) 0=true:=by rw[BB];rfl
 obtain⟨a,c,q,u⟩:=p;rw[Y3,Xs];have:Rw (xs,(b:Int),(a,c,q,()),())=some (ahL xs,sm xs,((2*k:Nat):Int),0,()):=by
  rw[QL,O8];simp only[T5,AR9 (show 1<=(b:Int)/\(b:Int)<=100 by omega),ASE,A6];rw[BC,AR8 (by omega)];have d:=ARw hl hb hb2 rfl g (k:Int);simp only[Wc hl hb hb2,h,l,ASE,Fa (show nbl xs.length b<=4294967296 by omega),Gj,Ch,d];have m:((List.range (nbl xs.length b)).map fun i=>sm (blk xs b i)).length<=1000000:=by grind
  have e:ahL ((List.range (nbl xs.length b)).map fun i=>sm (blk xs b i))=(List.range (nbl xs.length b)).map fun i=>sm (xs.take (i*b)):=by unfold ahL;rw[ASZ,ASP];refine ATa fun i hi=>WT xs b _ i (AT9 (ASb.1 hi))
  have f:sm ((List.range (nbl xs.length b)).map fun i=>sm (blk xs b i))=sm xs:=by
   have:=WT xs b (nbl xs.length b) (nbl xs.length b) (ASG _);rw[AS4 (by simp)]at this;rw[this,AS4];have:=(aC (n:=xs.length) (i:=nbl xs.length b) hb)
   omega
  simp only[QT _ m,e,f,Fa (show xs.length<=4294967296 by omega)];simp only[ARv hl hb hb2 rfl g (sm xs) (k:Int)];rw[show((2:Int)*(k:Int))=((2*k:Nat):Int) by omega,BG (by omega)]
 grind
end
theorem AAv{xs:List Int}{b:Int}{p:Int×Int×List (List Int)×Unit}(h:¬ (1<=b/\b<=100/\xs.length<=1000/\Ek p)):eX (xs,b,p,())=some ([],0,0,1,()):=by
 obtain⟨a,c,q,u⟩:=p;rw[Y3,Xs];have:Rw (xs,b,(a,c,q,()),())=some ([],0,0,1,()):=by
  rw[QL,O8];simp only[T5,A6];by_cases d:1<=b/\b<=100;rw[AR9 d];simp only[ASE];by_cases e:xs.length<=1000;rw[BC,AR8 (by omega)];obtain⟨b,rfl⟩:=ASD (show 0<=b by omega);have f:¬ Ek (a,c,q,()):=fun g=>h ⟨d.1,d.2,e,g⟩;have i:C4 ((nbl xs.length b:Int),(a,c,q,()),())=some ([],0,1,()):=bD fun j=>f j.2.2;have k:ieq (1:Int) 0=false:=by rw[BB];rfl
  simp only[Wc (b:=b) e (by omega) (by omega),i,k,ASf];rw[BC,AR9 (by omega)];grind
 grind
theorem wH{n:Nat}(a:n<=1000){p:Int×Int×List (List Int)×Unit}(b:Ek p):∃ (U:List Nat) (k:Nat),U.Perm (List.range n)/\(1<=n->1<=k)/\k<=40000/\C4 ((n:Int),p,())=some (nI U,(k:Int),0,()):=by rcases ATU n with h|h;subst h;exact⟨[],0,by simp,fun h=>by omega,by omega,Wx b⟩;obtain⟨U,k,c,d,e,_,f⟩:=wG h a b;grind
def FO(m:Nat)(p:Int×Int×List (List Int)×Unit):Prop:=∀ n:Nat,n<=m->∃ (U:List Nat) (k:Nat),U.Perm (List.range n)/\(1<=n->1<=k)/\k<=40000/\C4 ((n:Int),p,())=some (nI U,(k:Int),0,())
theorem FO.mono{m a:Nat}{p:Int×Int×List (List Int)×Unit}(h:FO m p)(b:a<=m):FO a p:=fun n c=>h n (ASs c b)
theorem AQl{p:Int×Int×List (List Int)×Unit}(a:Ek p):FO 1000 p:=fun _ b=>wH b a
def LP(keep:List Bool):List Int:=keep.map fun b=>if b then 1 else 0
theorem uD(keep:List Bool)(f:keep.length<=1000000):jT (keep,false,())=some (LP keep,()):=by
 rw[fL,Zm]
 have e:=GP (step:=LJ) (fun i=>(false,NK keep.length (fun j=>if keep.getD j false then(1:Int)else 0) (0:Int) i,keep,(keep.length:Int),(i:Int),())) keep.length (.inl (LP keep,())) (by omega)
  (fun i hi=>by
   obtain⟨x,a⟩:=Ca hi
   obtain⟨y,b⟩:=Ca (xs:=NK keep.length (fun j=>if keep.getD j false then(1:Int)else 0) (0:Int) i) (i:=i) (by rw[N2];exact hi)
   have c:keep.getD i false=x:=by grind
   rw[LJ,A2,AR9 hi]
   simp only[A' a,A' b,DX]
   rw[A5 (by omega),<- Z6]
   cases x with
   |true=>grind
   |false=>
    simp only[c,ASR,ASX]
    have:(NK keep.length (fun j=>if keep.getD j false then(1:Int)else 0) (0:Int) i).set i 0=NK keep.length (fun j=>if keep.getD j false then(1:Int)else 0) (0:Int) i:=by
     apply ATB
     intro j
     rw[AUP]
     by_cases h:i=j
     ·subst h
      rw[ASL rfl,N2,ASL hi,Z7,ASL hi,ASH (by omega)]
     grind
    grind)
  (by
   rw[LJ,A2,AR8 (by omega),Z8]
   have:(List.range keep.length).map (fun j=>if keep.getD j false then(1:Int)else 0)=LP keep:=by
    apply ATB
    intro j
    unfold LP
    grind
   rw[this])
 rw[UQ]at e;have d:A9 LJ many (false,List.replicate keep.length (0:Int),keep,(keep.length:Int),(0:Int),())=_:=e;simp only[A6,Fa (show keep.length<=4294967296 by omega),Gj,d]
def kept(keep:List Bool)(n:Nat):List Nat:=(List.range n).filter fun i=>keep.getD i false
theorem VA(keep:List Bool)(n:Nat):kept keep (n+1)=kept keep n++(if keep.getD n false then [n]else []):=by unfold kept;rw[ASi,ATP];grind
theorem X'(keep:List Bool):∀ n,(kept keep n).length<=n:=fun n=>by have:=ATR (fun i=>keep.getD i false) (List.range n);simpa [kept]using this
theorem Sc(keep:List Bool){i n:Nat}(h:i<n)(b:keep.getD i false=true):(kept keep n)[(kept keep i).length]? = some i:=by
 have:∀ d,∃ r,kept keep (i+1+d)=kept keep i++i::r:=by
  intro d;induction d with
   |zero=>exact⟨[],by rw[ATe,VA,b];rfl⟩
   |succ d c=>obtain⟨r,a⟩:=c;exact⟨r++(if keep.getD (i+1+d) false then [i+1+d]else []),by rw[<- AUZ,VA,a];simp⟩
 obtain⟨r,a⟩:=this (n-(i+1));grind
theorem yJ{keep:List Bool}(d:keep.length<=1000000):∀ i,i<=keep.length->sm ((LP keep).take i)=((kept keep i).length:Int):=by
 intro i;induction i with
  |zero=>intro _;simp[kept,sm]
  |succ i a=>
   intro hi;obtain⟨x,e⟩:=Ca (show i<keep.length by omega);have b:keep.getD i false=x:=by grind
   have c:(LP keep)[i]? = some (if x then 1 else 0):=by unfold LP;grind
   have:=X' keep i;rw[Cr c,iZ,a (by omega),VA,ASN,b];grind
theorem qQ{α:Type}{g:Nat->Nat}{v:Nat->α}:∀ (U:List Nat) (a:List α),U.Nodup->(∀ i∈U,∀ j∈U,g i=g j->i=j)->∀ i∈U,g i<a.length->(U.foldl (fun a i=>a.set (g i) (v i)) a)[g i]? = some (v i):=by
 intro U;induction U with
  |nil=>simp
  |cons u U f=>
   intro a d c i hi k;rw[AS2];rw[ATD]at d;rcases ASW.1 hi with rfl|hi;have:∀ (V:List Nat) (a:List α),(∀ j∈V,g j≠g i)->(V.foldl (fun a i=>a.set (g i) (v i)) a)[g i]? = a[g i]? := by
    intro V;induction V with
     |nil=>simp
     |cons x V b=>intro a h;rw[AS2,b _ fun j e=>h j (by simp[e]),AUp (h x (by simp))]
   grind;grind
theorem Ip{α:Type}(g:Nat->Nat)(v:Nat->α)(U:List Nat):∀ (a:List α),(U.foldl (fun a i=>a.set (g i) (v i)) a).length=a.length:=by
 induction U with
  |nil=>simp
  |cons u U b=>grind
theorem AIr{keep:List Bool}{i j:Nat}(hi:keep.getD i false=true)(a:keep.getD j false=true)(h:(kept keep i).length=(kept keep j).length):i=j:=by have b:=Sc keep (n:=i+j+1) (i:=i) (by omega) hi;have c:=Sc keep (n:=i+j+1) (i:=j) (by omega) a;grind
theorem AHJ{keep:List Bool}{U:List Nat}(l:U.Perm (List.range keep.length)):
  ((U.filter fun i=>keep.getD i false).foldl (fun a i=>a.set (kept keep i).length (i:Int)) (List.replicate (kept keep keep.length).length (0:Int)))=nI (kept keep keep.length):=by
 have c:=qQ (g:=fun i=>(kept keep i).length) (v:=fun i:Nat=>(i:Int)) (U.filter fun i=>keep.getD i false) (List.replicate (kept keep keep.length).length (0:Int))
  ((l.nodup_iff.2 ATY).filter _) (fun i hi j d h=>AIr (ASa.1 hi).2 (ASa.1 d).2 h)
 apply ATB;intro j;by_cases d:j<(kept keep keep.length).length;obtain⟨i,hi⟩:=Ca d;have n:=ASJ hi;have b:=ASa.1 n;have e:i<keep.length:=ASb.1 b.1;have m:=Sc keep e b.2;have f:(kept keep i).length=j:=by have k:(kept keep keep.length).Nodup:=List.nodup_range.filter _;exact(AUj (Ex m) k).1 (m.trans hi.symm)
 have:=c i (ASa.2 ⟨l.mem_iff.2 b.1,b.2⟩) (by grind);simp only[f]at this;rw[this,Ew hi];rw[ATf (by rw[Ip,ASy];omega),ATf (by rw[Ch];omega)]
theorem oI{keep:List Bool}{b:Nat}(J:keep.length<=1000)(B:1<=b)(h:b<=100){p:Int×Int×List (List Int)×Unit}{U V:List Nat}{k m:Nat}(C:k<=40000)(K:m<=40000)
  (L:U.Perm (List.range (nbl keep.length b))) (M:C4 ((nbl keep.length b:Int),p,())=some (nI U,(k:Int),0,())) (j:V.Perm (List.range keep.length)) (l:C4 ((keep.length:Int),p,())=some (nI V,(m:Int),0,())) :
  X2 (LP keep,(b:Int),p,())=some (nI (kept keep keep.length),((2*k+m:Nat):Int),0,()):=by
 have D:ieq (0:Int) 0=true:=by rw[BB];rfl
 have n:(LP keep).length=keep.length:=by simp[LP]
 have E:=X' keep keep.length;have o:=j.length_eq;rw[ASP]at o;have w:=eW (xs:=LP keep) (b:=b) (by omega) B h (p:=p) (U:=U) C (by grind) (by grind);have f:sm (LP keep)=((kept keep keep.length).length:Int):=by have:=yJ (keep:=keep) (by omega) keep.length (ASG _);grind
 rw[f]at w;obtain⟨a,c,q,u⟩:=p;rw[Zk,UE];simp only[w,D,ASE,A6,n,l,Fa (show(kept keep keep.length).length<=4294967296 by omega),Gj,Ch]
 have e:=GP (step:=JU) (fun i=>(LP keep,ahL (LP keep),((2*k:Nat):Int),(m:Int),((V.take i).filter fun i=>keep.getD i false).foldl (fun a i=>a.set (kept keep i).length (i:Int)) (List.replicate (kept keep keep.length).length (0:Int)),nI V,(V.length:Int),(i:Int),())) V.length
  (.inl (((2*k:Nat):Int),(m:Int),nI (kept keep keep.length),())) (by omega)
  (fun i hi=>by
   obtain⟨v,r⟩:=Ca hi
   have d:v<keep.length:=ASb.1 (j.mem_iff.1 (ASJ r))
   obtain⟨F,G⟩:=jr r
   obtain⟨x,N⟩:=Ca d
   have z:keep.getD v false=x:=by grind
   have s:(LP keep)[v]? = some (if x then 1 else 0):=by unfold LP;grind
   have g:(ahL (LP keep))[v]? = some ((kept keep v).length:Int):=by
    unfold ahL
    rw[AU6,List.getElem?_range (by omega)]
    show some (sm ((LP keep).take v))=_
    rw[yJ (by omega) v (AT9 d)]
   rw[JU,A2,AR9 hi]
   simp only[F,G,A' s]
   rw[A5 (by omega),Cr r,ATP,ATN]
   cases x with
   |true=>
    have t:(kept keep v).length<(kept keep keep.length).length:=Ex (Sc keep d z)
    obtain⟨y,H⟩:=Ca (xs:=((V.take i).filter fun i=>keep.getD i false).foldl (fun a i=>a.set (kept keep i).length (i:Int)) (List.replicate (kept keep keep.length).length (0:Int))) (i:=(kept keep v).length) (by
     rw[Ip (fun i=>(kept keep i).length) (fun i:Nat=>(i:Int)),ASy];exact t)
    have A:ieq (1:Int) 1=true:=by rw[BB];rfl
    simp only[ASh,A,A' g,Bm g,A' H,DX,ATJ,z]
    rfl
   |false=>
    have A:ieq (0:Int) 1=false:=by rw[BB];rfl
    grind)
  (by rw[JU,A2,AR8 (by omega),ASc,AHJ j])
 have I:A9 JU many (LP keep,ahL (LP keep),((2*k:Nat):Int),(m:Int),List.replicate (kept keep keep.length).length (0:Int),nI V,(V.length:Int),(0:Int),())=_:=e;simp only[I];rw[wrap_add (by omega)]
theorem tx{keep:List Bool}{b:Nat}(f:keep.length<=1000)(g:1<=b)(d:b<=100){p:Int×Int×List (List Int)×Unit}{U V:List Nat}{k m:Nat}(i:k<=40000)(j:m<=40000)
  (l:U.Perm (List.range (nbl keep.length b))) (n:C4 ((nbl keep.length b:Int),p,())=some (nI U,(k:Int),0,())) (o:V.Perm (List.range keep.length)) (e:C4 ((keep.length:Int),p,())=some (nI V,(m:Int),0,())) :
  jQ (keep,(b:Int),p,())=some (nI (kept keep keep.length),((2*k+m:Nat):Int),0,()):=by have h:=oI f g d i j l n o e;obtain⟨a,c,q,u⟩:=p;rw[fH,Zg];simp only[uD keep (by omega),h]
def bkt(d:Nat->Nat)(l:List Nat)(v:Nat):List Nat:=l.filter fun i=>d i==v
def GH(d:Nat->Nat)(B:Nat)(l:List Nat):List Nat:=(List.range B).flatMap (bkt d l)
def FW(d:Nat->Nat)(l:List Nat)(v:Nat):Nat:=(GH d v l).length
theorem Mz(d:Nat->Nat)(B:Nat)(l:List Nat):GH d (B+1) l=GH d B l++bkt d l B:=by unfold GH;rw[ASi,ATS];simp
theorem rb(d:Nat->Nat)(l:List Nat)(v:Nat):FW d l (v+1)=FW d l v+(bkt d l v).length:=by unfold FW;rw[Mz,ASN]
theorem bj(d:Nat->Nat)(l:List Nat):∀ B,(GH d B l).Perm (l.filter fun i=>decide (d i<B)):=by
 intro B;induction B with
  |zero=>
   have:l.filter (fun i=>decide (d i<0))=[]:=List.filter_eq_nil_iff.2 fun a _=>by simp
   rw[this];exact List.Perm.refl _
  |succ B b=>
   rw[Mz];have h:=List.filter_append_perm (fun i=>decide (d i<B)) (l.filter fun i=>decide (d i<B+1));refine List.Perm.trans ?_ h;have c:(l.filter fun i=>decide (d i<B+1)).filter (fun i=>decide (d i<B))=l.filter fun i=>decide (d i<B):=by rw[AUc];refine ATn fun x _ => ?_;grind
   have e:(l.filter fun i=>decide (d i<B+1)).filter (fun i => !decide (d i<B))=bkt d l B:=by unfold bkt;rw[AUc];refine ATn fun x _ => ?_;rw[ATH];simp;omega
   grind
theorem W_{d:Nat->Nat}{B:Nat}{l:List Nat}(h:∀ i∈l,d i<B):(GH d B l).Perm l:=by have:=bj d l B;rw[ATK.2 fun a b=>AR9 (h a b)]at this;omega
def Pm(d:Nat->Nat)(l:List Nat)(t:Nat):Nat:=FW d l (d (l.getD t 0))+(bkt d (l.take t) (d (l.getD t 0))).length
theorem qx(d:Nat->Nat)(l:List Nat){v B:Nat}(h:v<B):∃ r,GH d B l=GH d v l++(bkt d l v++r):=by
 have:∀ k,∃ r,GH d (v+1+k) l=GH d v l++(bkt d l v++r):=by
  intro k;induction k with
   |zero=>exact⟨[],by rw[ATe,Mz];simp⟩
   |succ k a=>obtain⟨r,b⟩:=a;exact⟨r++bkt d l (v+1+k),by rw[<- AUZ,Mz,b];simp⟩
 have:=this (B-(v+1));grind
theorem qy{d:Nat->Nat}{B:Nat}{l:List Nat}(h:∀ i∈l,d i<B){t x:Nat}(a:l[t]? = some x):(GH d B l)[Pm d l t]? = some x:=by
 have b:=h x (ASJ a);have c:l.getD t 0=x:=by grind
 obtain⟨r,f⟩:=qx d l b;unfold Pm;rw[c,f,AS0 (by unfold FW;omega)];unfold FW;rw[Nat.add_sub_cancel_left];have g:bkt d l (d x)=bkt d (l.take t) (d x)++x::bkt d (l.drop (t+1)) (d x):=by
  have e:l=l.take t++x::l.drop (t+1):=by obtain⟨j,rfl⟩:=ASM.1 a;simp
  unfold bkt;grind
 grind
theorem lO{k:Nat->Nat}{m b B:Nat}{l:List Nat}(e:B=2 ^ b)(h:l.Pairwise fun i j=>k i % 2 ^ m<=k j % 2 ^ m):
  (GH (fun i=>k i/2 ^ m % B) B l).Pairwise fun i j=>k i % 2 ^ (m+b)<=k j % 2 ^ (m+b):=by
 have a:∀ i,k i % 2 ^ (m+b)=2 ^ m*(k i/2 ^ m % B)+k i % 2 ^ m:=by intro i;rw[Nat.pow_add,Nat.mod_mul,e];omega
 unfold GH;rw[List.pairwise_flatMap];constructor;intro v _;unfold bkt;have:=h.filter (fun i=>k i/2 ^ m % B==v);refine this.imp_of_mem fun {i j} hi d f => ?_;grind;refine List.pairwise_lt_range.imp fun {v w} c i hi j d => ?_;have g:k i/2 ^ m % B=v:=by simpa using (ASa.1 hi).2
 have n:k j/2 ^ m % B=w:=by simpa using (ASa.1 d).2
 rw[a,a,g,n];have o:=AUg (k i) (AU0 m);have p:2 ^ m*(v+1)<=2 ^ m*w:=Nat.mul_le_mul_left _ c;grind
def ZU(k:Nat->Nat)(b:Nat)(l:List Nat):Nat->List Nat
 |0=>l
 |p+1=>GH (fun i=>k i/2 ^ (p*b) % 2 ^ b) (2 ^ b) (ZU k b l p)
theorem fA(k:Nat->Nat)(b:Nat)(l:List Nat):∀ p,(ZU k b l p).Perm l/\(ZU k b l p).Pairwise fun i j=>k i % 2 ^ (p*b)<=k j % 2 ^ (p*b):=by
 intro p;induction p with
  |zero=>refine⟨List.Perm.refl _,?_⟩;simp only[AUA,Nat.pow_zero,Nat.mod_one];exact List.pairwise_of_forall fun _ _=>ASG _
  |succ p a=>refine⟨(W_ fun i _=>AUg _ (AU0 b)).trans a.1,?_⟩;rw[AUn];exact lO rfl a.2
def Q_(s:List Int):List Bool:=(List.range s.length).map fun i=>decide (i=0)||decide (s.getD (i-1) 0≠s.getD i 0)
end Go.Pev.Pl
end
