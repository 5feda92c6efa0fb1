/- A part of the proofs of this seat: W33b CU26al CU26j CU26k M28a M28b W33j W33c SWg TL12a TL12b TL12c TL12d TL12e TL12f TL12g TL12h TL12i TL12j W33i W33d W33e W33f W33g W33h GLP30 GLP. -/
import Derived.Test.YthlfbbnpdfjdiaaGreatDoorP260d62f906
import Derived.KernelRfl
import Derived.Test.YthlfbbnpdfjdiaaGreatDoorProg
set_option linter.unusedVariables false
set_option linter.unusedSimpArgs false
set_option linter.unusedSectionVars false
set_option maxRecDepth 100000
section
namespace Go.Pev.Pl
open Tok
theorem RG2.AYL{N:Nat}{ts:List Tie}(h:RG2 N ts)(b:pH ts):Qn False N (D3 N:Int) ts:=by refine⟨fun x a => ?_,fun x a=>AWm (h.inE _ (AZG.2 ⟨x,a,rfl⟩)),h.fo0,b,False.elim⟩;rw[<- Sb h.hN];exact(h.tie a).2.2.2
theorem rn{N:Nat}{ts:List Tie}(h:RG2 N ts)(g:pH ts)(l:List Edge)(j:l.length<1073741824):
  ∃ O w e,S1 (((N:Int),(ts,())),l,())=some (((N:Int),(O,())),w,e,())/\O.length<=ts.length/\(e=0->YB N l/\RG2 N O/\O.map ed=(ts.map ed).filter (fun e=>decide (e∉Cr N ts l))):=by
 obtain⟨O,w,e,m,n,o⟩:=yH h l j (fun i O=>O.map ed=(ts.map ed).filter (fun e=>decide (e∉(Cr N ts l).take i))/\RG2 N O/\Qn False N (D3 N:Int) O)
  ⟨by
   rw[List.take_zero]
   refine(AZ7.2 fun e _ => ?_).symm
   simp,h,h.AYL g⟩
  (fun i x O k t p c a B d r _=>by
   obtain⟨a,_,s⟩:=a
   obtain⟨u,v,_⟩:=AID c s d
   refine⟨?_,u,v⟩
   have b:(Cr N ts l).take (i+1)=(Cr N ts l).take i++[x]:=by
    rw[Abw,p];rfl
   rw[AAR c d,a,Abp]
   refine AaU fun e _ => ?_
   rw[b,AaX]
   simp only[AY3,AY2,AY5,AZW,not_or]
   rw[r]
   exact⟨fun q=>⟨q.2,q.1⟩,fun q=>⟨q.2,q.1⟩⟩)
 refine⟨O,w,e,m,n,fun y => ?_⟩;obtain⟨z,f,A,_⟩:=o y;rw[AZq (AY8 _)]at f;exact⟨z,A,f⟩
def Ck(e:Edge):Int:=(MH e:Int)
theorem P8{e:Edge}(a:0<=e.1)(b:e.1<e.2.1):Ck e=e.1*65536+e.2.1:=by unfold Ck MH;rw[AbN (by omega),Abb (by omega)];omega
theorem AHk{N:Nat}(c:N<=64){p x:Edge}(a:0<=p.1/\p.1<p.2.1/\p.2.1<(N:Int))(b:0<=x.1/\x.1<x.2.1/\x.2.1<(N:Int))(h:DI p x):Ck p<Ck x:=by rw[P8 a.1 a.2.1,P8 b.1 b.2.1];unfold DI at h;omega
theorem RG2.F8{N:Nat}{ts:List Tie}(h:RG2 N ts){e:Edge}(a:e∈ts.map ed):0<=e.1/\e.1<e.2.1/\e.2.1<(N:Int):=by have c:=h.AW5 e a;have b:=h.inE e a;exact⟨b.1.2.2.1,c,b.2.2.2.2⟩
theorem RG2.keys{N:Nat}{ts:List Tie}(h:RG2 N ts):((ts.map ed).map Ck).Pairwise (· < ·):=by rw[AaN];refine List.Pairwise.imp_of_mem (fun {a b} c d q=>AHk h.hN (h.F8 c) (h.F8 d) q) h.edP
theorem RG2.ATA{N:Nat}{ts:List Tie}(h:RG2 N ts):∀ k∈(ts.map ed).map Ck,0<=k/\k<=4294967295:=by intro k a;obtain⟨e,b,rfl⟩:=AZG.1 a;have:=h.F8 b;have c:=h.hN;rw[P8 this.1 this.2.1];omega
theorem ATB{N:Nat}{ts:List Tie}(h:RG2 N ts){u v:Int}(i:0<=u)(b:u<v)(l:v<(N:Int)):Ck (u,v,())∈(ts.map ed).map Ck↔ts.any (Ep u v)=true:=by have m:=h.hN;rw[AZG,AbG];constructor;rintro⟨e,g,c⟩;have d:=h.F8 g;obtain⟨t,f,rfl⟩:=AZG.1 g;refine⟨t,f,?_⟩;rw[P8 d.1 d.2.1,P8 (e:=(u,v,())) i b]at c;unfold Ep;rw[AZr,AbN (by omega),Abb (by omega)];have j:(ed t).1=t.1:=rfl;have k:(ed t).2.1=t.2.1:=rfl;rw[j,k]at c d;simp only at c;omega;rintro⟨t,f,a⟩;unfold Ep at a;rw[AZr,AbN (by omega),Abb (by omega)]at a;refine⟨ed t,AZG.2 ⟨t,f,rfl⟩,?_⟩;unfold ed;rw[a.1,a.2]
theorem AHj{N:Nat}{ts O:List Tie}(h:RG2 N ts){l:List Edge}(a:YB N l)(r:O.map ed=(ts.map ed).filter (fun e=>decide (e∉Cr N ts l))):
  (O.map ed).map Ck=((ts.map ed).map Ck).filter fun k => !decide (k∈l.map Ck):=by
 have u:=h.hN;have d:∀ e∈ts.map ed,(e∉Cr N ts l↔Ck e∉l.map Ck):=fun e j=>not_congr (by
  have f:=h.F8 j;have o:=P8 f.1 f.2.1;unfold Cr;rw[AZS,AZr,Ey];have kx:∀ x:Edge,In (N:Int) x.1/\In (N:Int) x.2.1->Ck x=min x.1 x.2.1*65536+max x.1 x.2.1:=fun x g=>by unfold Ck MH;have:=g.1.2.2;have:=g.2.2.2;omega
  constructor;rintro⟨⟨_,_,_,q⟩,_⟩;have fin:∀ x:Edge,x∈l->(x.1=e.1/\x.2.1=e.2.1\/x.1=e.2.1/\x.2.1=e.1)->Ck e∈l.map Ck:=fun x b v=>by refine AZG.2 ⟨x,b,?_⟩;rw[kx x (a x b),o];omega
  rcases q with q|q;exact fin _ q (.inl ⟨rfl,rfl⟩);exact fin _ q (.inr ⟨rfl,rfl⟩);intro q;obtain⟨x,b,i⟩:=AZG.1 q;rw[kx x (a x b),o]at i;have s:=(a x b).1.2.2;have t:=(a x b).2.2.2;refine⟨⟨f.1,f.2.1,f.2.2,?_⟩,j⟩;obtain⟨m,n,⟨⟩⟩:=x;simp only at i s t;by_cases c:m<n;left;rw[show e.1=m by omega,show e.2.1=n by omega];exact b;right;rw[show e.1=n by omega,show e.2.1=m by omega];exact b)
 rw[r];generalize ts.map ed=E at d;rw[List.filter_map];congr 1;refine AaU fun e j => ?_;have:=d e j;by_cases q:Ck e∈l.map Ck;have p:¬ e∉Cr N ts l:=fun p=>this.1 p q;rw[AYz p];simp[q];rw[AY0 (this.2 q)];simp[q]
abbrev dx:=Int×Int×Int×Unit
abbrev Kq:=Int×List Edge×List dx×Unit
instance (e:Edge):Decidable (Fz e):=by unfold Fz;exact inferInstance
def cZ(n:Int):Prop:=0<=n/\n<65536
instance (n:Int):Decidable (cZ n):=by unfold cZ;exact inferInstance
def UJ(a:dx):Prop:=1<=a.1/\a.1<=4/\cZ a.2.1/\cZ a.2.2.1
instance (a:dx):Decidable (UJ a):=by unfold UJ;exact inferInstance
def WR(x:Kq):Prop:=((x.1=1\/x.1=2)/\x.2.2.1=[]/\x.2.1.length<=60/\∀ e∈x.2.1,Fz e)\/(x.1=3/\x.2.1=[]/\x.2.2.1.length<=60/\∀ a∈x.2.2.1,UJ a)
instance (x:Kq):Decidable (WR x):=by unfold WR;exact inferInstance
theorem gZ(n:Int):Zo (n,())=some (decide (cZ n),()):=by
 rw[pz,kz];have e:IntKind.wrap .u16 n=n % 65536:=by simp[IntKind.wrap,IntKind.bits,IntKind.signed]
 rw[e,BI (by omega),BL];congr 2;rw[Aa4];unfold cZ;omega
theorem wQ(n:Int):kJ (n,())=some (decide (1<=n/\n<=4),()):=by rw[fV,Zi,BQ];by_cases h:1<=n;rw[AY0 h,BQ];simp[h];grind
theorem ADz{α:Type}(P:α->Prop)[DecidablePred P](l:List α):(l.any fun x => !decide (P x)) = !decide (∀ x∈l,P x):=by grind
theorem AJF(l:List Edge)(d:l.length<=60):GV (l,())=some (!decide (∀ e∈l,Fz e),()):=by
 have e:=Q0 (step:=Ff) (fun i=>(l,(l.length:Int),(i:Int),())) l (fun e => !decide (Fz e)) (fun i=>.inl ((i:Int),())) (.inr (.inl ())) (by omega)
  (fun i x hi b=>by
   rw[Ff,A4,AY0 hi]
   simp only[BB b,gZ]
   rw[A6 (by omega)]
   have a:Fz x↔cZ x.1/\cZ x.2.1:=by unfold Fz cZ;omega
   grind)
  (by rw[Ff,A4,AYz (by omega)])
 have c:A_ Ff many (l,(l.length:Int),(0:Int),())=_:=e;rw[PG,Lf,Qw,NO];simp only[A9,c,ADz];by_cases h:∀ e∈l,Fz e;rw[AY0 h];simp only[AY4,AZH,AZL];rw[BQ,AYz (by decide)];rw[AYz h];simp only[AZO,AZa];rw[BQ,AY0 (by omega)]
theorem AJG(l:List dx)(f:l.length<=60):LK (l,())=some (!decide (∀ a∈l,UJ a),()):=by
 have e:=Q0 (step:=Fg) (fun i=>(l,(l.length:Int),(i:Int),())) l (fun a => !decide (UJ a)) (fun i=>.inl ((i:Int),())) (.inr (.inl ())) (by omega)
  (fun i x hi c=>by
   rw[Fg,A4,AY0 hi]
   simp only[BB c,wQ,gZ]
   rw[A6 (by omega)]
   have b:UJ x↔(1<=x.1/\x.1<=4)/\cZ x.2.1/\cZ x.2.2.1:=by unfold UJ;grind
   grind)
  (by rw[Fg,A4,AYz (by omega)])
 have d:A_ Fg many (l,(l.length:Int),(0:Int),())=_:=e;rw[PH,Lg,Qy,NQ];simp only[A9,d,ADz];by_cases h:∀ a∈l,UJ a;rw[AY0 h];simp only[AY4,AZH,AZL];rw[BQ,AYz (by decide)];rw[AYz h];simp only[AZO,AZa];rw[BQ,AY0 (by omega)]
theorem AS6{α:Type}(l:List α):ieq (l.length:Int) 0=decide (l=[]):=by rw[BL,Aa4];simp
theorem Q9(x:Kq):kH (x,())=some (decide (WR x),()):=by
 obtain⟨k,c,b,⟨⟩⟩:=x;rw[fR,Zg];simp only[A9,AS6];simp only[BL];have d:∀ {α:Type} (l:List α),ile (l.length:Int) 60=decide (l.length<=60):=fun l=>by rw[BQ,Aa4];omega
 have g:k=1\/k=2->(WR (k,c,b,())↔b=[]/\c.length<=60/\∀ e∈c,Fz e):=by intro m;unfold WR;grind
 have h:k=1\/k=2->(match decide (b=[])with
   |true=>match ile (c.length:Int) 60 with
    |true=>match GV (c,())with
     |none=>none
     |some (y0,_)=>some ((!y0),())
    |false=>some (false,())
   |false=>some (false,()))=some (decide (WR (k,c,b,())),()):=by
  intro m
  by_cases i:b=[]
  ·rw[AY0 i]
   simp only[d]
   by_cases f:c.length<=60
   ·rw[AY0 f]
    simp only[AJF c f,Bool.not_not]
    grind
   grind
  grind
 by_cases n:k=1;grind;rw[AYz n];by_cases o:k=2;grind;rw[AYz o];by_cases p:k=3;rw[AY0 p];have j:WR (k,c,b,())↔c=[]/\b.length<=60/\∀ a∈b,UJ a:=by unfold WR;grind
 by_cases i:c=[]
 rw[AY0 i];simp only[d];by_cases f:b.length<=60;rw[AY0 f];simp only[AJG b f,Bool.not_not];grind;grind;grind;have q:¬ WR (k,c,b,()):=by unfold WR;omega
 grind
def NF(a:dx):List Int:=if a.1=1 then [a.2.1,a.2.2.1]else if a.1=2\/a.1=3 then [a.2.1]else []
def EI(x:Kq):List Int:=(x.2.1.flatMap fun e=>[e.1,e.2.1])++x.2.2.1.flatMap NF
theorem P5(a:dx):(NF a).length<=2:=by unfold NF;grind
theorem ABm(a:dx):pE ((a.1,(a.2.1,(a.2.2.1,()))),())=some (NF a,()):=by rw[jy,dS];simp only[BL];unfold NF;grind
theorem Jp{α:Type}(f:α->List Int)(b:∀ a,(f a).length<=2):∀ (l:List α),(l.flatMap f).length<=2*l.length:=by
 intro l;induction l with
  |nil=>simp
  |cons a l c=>grind
theorem ju{x:Kq}(h:x.2.1.length<=1000000)(j:x.2.2.1.length<=1000000):ADw (x,())=some (EI x,()):=by
 obtain⟨k,c,b,⟨⟩⟩:=x;simp only at h j;rw[vV,ox];have d:∀ i,((c.take i).flatMap fun e=>[e.1,e.2.1]).length<=2000000:=fun i=>by have:=Jp (fun e:Edge=>[e.1,e.2.1]) (fun _=>by simp) (c.take i);grind
 have Q:=Is (step:=PQ) (fun i=>(k,c,b,((c.take i).flatMap fun e=>[e.1,e.2.1]),c,(c.length:Int),(i:Int),())) c.length (.inl (k,c,b,(c.flatMap fun e=>[e.1,e.2.1]),())) (by omega)
  (fun i hi=>by
   obtain⟨e,f⟩:=Cb hi
   have:=d i
   rw[PQ,A4,AY0 hi]
   simp only[BB f,A9,AZC,AZP]
   rw[CN (by omega),A6 (by omega),Ct f,AaS]
   simp only[I0]
   rfl)
  (by rw[PQ,A4,AYz (by omega),AZT])
 have l:A_ PQ many (k,c,b,([]:List Int),c,(c.length:Int),(0:Int),())=_:=Q;simp only[A9,l]
 have R:=Is (step:=UI) (fun i=>((c.flatMap fun e=>[e.1,e.2.1])++(b.take i).flatMap NF,b,(b.length:Int),(i:Int),())) b.length (.inl (EI (k,c,b,()),())) (by omega)
  (fun i hi=>by
   obtain⟨a,g⟩:=Cb hi
   have m:=d c.length
   rw[AZT]at m
   have n:=Jp NF P5 (b.take i)
   rw[AZU]at n
   have o:=P5 a
   rw[UI,A4,AY0 hi]
   simp only[BB g,ABm,A9,AZF]
   rw[CN (by omega),A6 (by omega),Ct g,AaS]
   simp only[I0,Aby]
   simp)
  (by rw[UI,A4,AYz (by omega),AZT];rfl)
 grind
theorem jm(n:Int)(ts:List Tie)(l:List Int)(c:l.length<=1000000):LJ (l,n,ts,())=some (n,ts,(l.any fun v=>decide (n<=v)),()):=by
 have e:=Q0 (step:=Fe) (fun i=>(n,ts,l,(l.length:Int),(i:Int),())) l (fun v=>decide (n<=v)) (fun i=>.inl (n,ts,(i:Int),())) (.inr (.inl (n,ts,()))) (by omega)
  (fun i x hi a=>by
   rw[Fe,A4,AY0 hi]
   simp only[BB a,BQ]
   rw[A6 (by omega)]
   grind)
  (by rw[Fe,A4,AYz (by omega)])
 have b:A_ Fe many (n,ts,l,(l.length:Int),(0:Int),())=_:=e;rw[PF,Le,Qv,NN];simp only[A9,b];cases h:(l.any fun v=>decide (n<=v))with
  |true=>simp only[AZa];rw[BQ,AY0 (by omega)]
  |false=>simp only[AZH,AZL];rw[BQ,AYz (by decide)]
instance (w:SB):Decidable (PS w):=by unfold PS;exact inferInstance
abbrev AXX:=Int×List Edge×List dx×Int×Int×Unit
def AR3(e:Int):AXX:=(0,[],[],0,e,())
def GR(n:Int)(ts:List Tie):Prop:=∃ N:Nat,n=(N:Int)/\RG2 N ts
theorem ALq(n:Int)(ts:List Tie)(i:ts.length<4611686018427387904):∃ b:Bool,Fl ((n,(ts,())),())=some (b,())/\Ej ((n,(ts,())),())=some (b,())/\(b=true↔GR n ts):=by obtain⟨b,a,j,k⟩:=R_ n ts i;refine⟨b,a,j,fun c => ?_,?_⟩;obtain⟨N,rfl,d,e,f,g⟩:=k c;subst c;exact⟨N,rfl,⟨d,e,f,g,(af d e f g).1 a⟩⟩;rintro⟨N,rfl,h⟩;have:=h.r21;grind
section
variable {n:Int} {ts:List Tie} {x:Kq} {w:SB}
theorem AJP(d:ts.length<4611686018427387904)(h:¬ (GR n ts/\WR x)):Kk ((n,(ts,())),x,w,())=some (AR3 1):=by
 obtain⟨b,_,e,f⟩:=ALq n ts d;obtain⟨k,g,a,⟨⟩⟩:=x;rw[QQ,PR];simp only[e];cases b with
  |false=>rfl
  |true=>have c:¬ WR (k,g,a,()):=fun c=>h ⟨f.1 rfl,c⟩;simp only[AY4,Q9,AYz c];rfl
theorem wN(h:WR x):x.2.1.length<=60/\x.2.2.1.length<=60/\(∀ e∈x.2.1,Fz e):=by
 obtain⟨k,d,a,⟨⟩⟩:=x;rcases h with⟨_,b,c,f⟩|⟨_,b,c,_⟩
 all_goals grind
variable {N:Nat} (h:RG2 N ts) (hw:WR x)
include h hw
theorem ABV(g:∃ v∈EI x,(N:Int)<=v):Kk (((N:Int),(ts,())),x,w,())=some (AR3 10):=by
 obtain⟨i,j,_⟩:=wN hw;have c:=ju (x:=x) (by omega) (by omega);have b:(EI x).length<=1000000:=by unfold EI;rw[AZF];have:=Jp (fun e:Edge=>[e.1,e.2.1]) (fun _=>by simp) x.2.1;have:=Jp NF P5 x.2.2.1;omega
 have a:((EI x).any fun v=>decide ((N:Int)<=v))=true:=by grind
 have d:=jm (N:Int) ts (EI x) b;obtain⟨k,l,f,⟨⟩⟩:=x;rw[QQ,PR];simp only[h.lr,AY4,Q9,AY0 hw,c,d,a];rfl
variable (hv:∀ v∈EI x,v<(N:Int))
include hv
omit h hw in
theorem APm:((EI x).any fun v=>decide ((N:Int)<=v))=false:=by grind
theorem APn(Q:x.1=1\/x.1=2)(D:PS w->FO x.2.1.length w.2.2.1):Kk (((N:Int),(ts,())),x,w,()) =
  if PS w then
   if x.1=2 then some (2,Cr N ts x.2.1,[],HM w (D8 x.2.1).length,0,())
   else if 400-ts.length<(I7 N ts x.2.1).length then some (AR3 2)else some (1,I7 N ts x.2.1,[],HM w (D8 x.2.1).length,0,())
  else some (AR3 1):=by
 obtain⟨R,S,f⟩:=wN hw;have E:=ju (x:=x) (by omega) (by omega);have s:(EI x).length<=1000000:=by unfold EI;rw[AZF];have:=Jp (fun e:Edge=>[e.1,e.2.1]) (fun _=>by simp) x.2.1;have:=Jp NF P5 x.2.2.1;omega
 have o:=APm hv;have F:=jm (N:Int) ts (EI x) s;have G:=jf (l:=x.2.1) (b:=w.1.toNat);have p:∀ e∈LH x.2.1 w.1.toNat,In (N:Int) e.1/\In (N:Int) e.2.1:=by
  intro e H;obtain⟨T,U,t⟩:=(Pz f e).1 H;have I:e.2.1<(N:Int):=by refine hv _ ?_;unfold EI;refine AY5.2 (.inl (Aa2.2 ?_));rcases t with t|t;all_goals grind
  have V:=h.hN;have W:=h.h1;unfold In;omega
 have u:Cr N ts (LH x.2.1 w.1.toNat)=Cr N ts x.2.1:=by unfold Cr;rw[X2 f]
 have y:I7 N ts (LH x.2.1 w.1.toNat)=I7 N ts x.2.1:=by unfold I7;rw[X2 f]
 have j:=ij h (LH x.2.1 w.1.toNat) (by omega);rw[AZA p,u]at j;have g:=AOf h.h1 h.hN ts h.ht (LH x.2.1 w.1.toNat) (by omega) h.lr;rw[AZA p,y]at g;have r:=Q9 x;rw[AY0 hw]at r;have z:=fun i=>AI2 (w:=w) f (by omega) i ((D i).mono (P7 x.2.1));have A:=fun i=>AA7 (w:=w) f (by omega) i;have B:ieq x.1 3=false:=by rw[BL];grind
 have X:=h.ht;have m:ADy (((N:Int),(ts,())),())=some (((400-ts.length:Nat):Int),()):=by rw[vX,pC];simp only[h.lr,AY4,A9];rw[BI (by omega),show(400:Int)-(ts.length:Int)=((400-ts.length:Nat):Int) by omega]
 have J:ieq (0:Int) 0=true:=by rw[BL];rfl
 have K:ieq (1:Int) 0=false:=by rw[BL];rfl
 obtain⟨k,L,M,⟨⟩⟩:=x;obtain⟨b,c,⟨a,d,q,⟨⟩⟩,⟨⟩⟩:=w;rw[QQ,PR];simp only[h.lr,AY4,r,E,F,o,B];by_cases i:PS (b,c,(a,d,q,()),());rw[AZA i];simp only[z i,J,AY4];by_cases O:k=2;subst O;rw[AZA rfl,BL,AY0 rfl];grind;have P:k=1:=by omega
 subst P;rw[AY7 (by decide),BL,AYz (by decide)];simp only[g,m,A9,A4];by_cases C:400-ts.length<(I7 N ts L).length;rw[AZA C,AY0 C];rfl;grind;rw[AY7 i];simp only[A i,K,AZO];rfl
end
theorem AAO{l:List Edge}{u v:Int}(h:Rw l u v)(a:u<v):∃ e∈l,(min e.1 e.2.1,max e.1 e.2.1,())=((u,v,()):Edge):=by rcases h with h|h;all_goals grind
theorem xD{α:Type}[DecidableEq α]:∀ {l m:List α},l.Nodup->(∀ x∈l,x∈m)->l.length<=m.length:=by
 intro l;induction l with
  |nil=>simp
  |cons a l c=>
   intro m b d;rw[AaA]at b;have e:=d a (by simp);have:=c (m:=m.erase a) b.2 fun x f=>by grind
   grind
theorem zV{xs:List Edge}(h:xs.Pairwise DI):xs.Nodup:=h.imp fun {a b} c=>by rintro rfl;unfold DI at c;omega
theorem AFn(N:Nat)(l:List Edge):(EM N l).length<=l.length:=by
 have:=xD (zV (OW N l)) (m:=l.map fun e=>((min e.1 e.2.1,max e.1 e.2.1,()):Edge)) fun x a=>by obtain⟨f,b,g,c⟩:=(Ey N l x).1 a;obtain⟨e,h,d⟩:=AAO c b;grind
 grind
theorem AUe(N:Nat)(ts:List Tie)(l:List Edge):(I7 N ts l).length+(Cr N ts l).length<=l.length:=by have h:=(List.filter_append_perm (fun x=>decide (x∈ts.map ed)) (EM N l)).length_eq;rw[AZF]at h;have:=AFn N l;unfold I7 Cr;omega
theorem AO0{xs ys:List Edge}(c:xs.Pairwise DI)(d:ys.Pairwise DI)(h:∀ x,x∈xs↔x∈ys):xs=ys:=
 AaW (le:=DI) (fun a b _ _ e f=>by unfold DI at e f;omega) c d ((Aap (zV c) (zV d)).2 h)
theorem uA{l:List Edge}(h:∀ e∈l,e.1<e.2.1){u v:Int}(a:u<v):Rw l u v↔((u,(v,())):Edge)∈l:=by
 constructor;·rintro (b|b);all_goals grind
 exact .inl
theorem ra{N:Nat}{l L:List Edge}(c:∀ x∈L,x∈EM N l)(x:Edge):x∈EM N L↔x∈L:=by have a:∀ e∈L,e.1<e.2.1:=fun e d=>((Ey N l e).1 (c e d)).2.1;rw[Ey];constructor;rintro⟨_,b,_,f⟩;exact(uA a b).1 f;intro h;obtain⟨g,b,i,_⟩:=(Ey N l x).1 (c x h);exact⟨g,b,i,(uA a b).2 h⟩
theorem AAQ(N:Nat)(ts:List Tie)(l:List Edge):Cr N ts (Cr N ts l)=Cr N ts l:=by refine AO0 (Ry ..) (Ry ..) fun x => ?_;have a:∀ x∈Cr N ts l,x∈EM N l:=fun x b=>(AZS.1 b).1;rw[show Cr N ts (Cr N ts l)=(EM N (Cr N ts l)).filter (fun x=>decide (x∈ts.map ed))from rfl,AZS,ra (l:=l) (L:=Cr N ts l) a];constructor;grind;exact fun h=>⟨h,(AZS.1 h).2⟩
end Go.Pev.Pl
end
section
namespace Go.Pev
open Go.Proofs
noncomputable section
abbrev pvT(ns:List Int):Option (List Int):=rP 138 [.i64] (.panic [DE (AFg 138 [.i64] ns)])
def ATc[Lk]:(Int×Unit)->Option (Unit⊕(List Int×Unit)):=fun(a,_)=>
 match(!(ieq a (0:Int)))with
 |true=>some (.inr ([a],()))
 |false=>some (.inl ())
theorem AHz:∀ v,ATc v=DY 0 Tryz.prog NS.e ZL Tryz.f128 JI JH K_ 138 [.i64] QA v:=by intro _;kernel_rfl
def Rp[Lk](v:Int×Unit):Option (Unit⊕(List Int×Unit)):=Xn v
abbrev wM:=Int×List (Int×Int×Int×Bool×Unit)×Int×Int×Int×Int×List Int×Unit
def ZI[Lk]:(Int×List (Int×Int×Int×Bool×Unit)×Int×Int×Int×Int×List Int×(Int×List (Int×Int×Unit)×List (Int×Int×Int×Unit)×Unit)×(Int×Int×(Int×Int×List (List Int)×Unit)×Unit)×Unit)->Option (wM⊕(List Int×Unit)):=fun(b,c,d,e,f,i,g,h,a,_)=>
 match Kk ((b,(c,())),(h.1,(h.2.1,(h.2.2.1,()))),(a.1,(a.2.1,((a.2.2.1.1,(a.2.2.1.2.1,(a.2.2.1.2.2.1,()))),()))),())with
 |none=>none
 |some (y0,y1,y2,y3,y4,_)=>match Rp (y4,())with
  |none=>none
  |some r=>match r with
   |.inr (ns,_)=>match pvT ns with
    |some n=>some (.inr (n,()))
    |none=>none
   |.inl _=>match DH ((w64 ((A3 y1)+(A3 y2))),(a.2.2.1.1,(a.2.2.1.2.1,(a.2.2.1.2.2.1,()))),())with
    |none=>none
    |some (z0,z1,z2,_)=>match Rp (z2,())with
     |none=>none
     |some r=>match r with
      |.inr (ns,_)=>match pvT ns with
       |some n=>some (.inr (n,()))
       |none=>none
      |.inl _=>match(ieq y0 (1:Int))with
       |true=>match AAX ((b,(c,())),y1,())with
        |none=>none
        |some (u0,u1,u2,u3,_)=>match Rp (u3,())with
         |none=>none
         |some r=>match r with
          |.inr (ns,_)=>match pvT ns with
           |some n=>some (.inr (n,()))
           |none=>none
          |.inl _=>some (.inl (u0,u1,(w64 (d+(1:Int))),(w64 (e+(w64 (y3+z1)))),f,u2,g,()))
       |false=>match(ieq y0 (2:Int))with
        |true=>match S1 ((b,(c,())),y1,())with
         |none=>none
         |some (u0,u1,u2,_)=>match Rp (u2,())with
          |none=>none
          |some r=>match r with
           |.inr (ns,_)=>match pvT ns with
            |some n=>some (.inr (n,()))
            |none=>none
           |.inl _=>some (.inl (u0.1,u0.2.1,(w64 (d+(1:Int))),(w64 (e+(w64 (y3+z1)))),f,(A3 y1),g,()))
        |false=>match(ieq y0 (3:Int))with
         |true=>match Sp ((b,(c,())),y2,())with
          |none=>none
          |some (u0,u1,_)=>match Rp (u1,())with
           |none=>none
           |some r=>match r with
            |.inr (ns,_)=>match pvT ns with
             |some n=>some (.inr (n,()))
             |none=>none
            |.inl _=>some (.inl (b,c,(w64 (d+(1:Int))),(w64 (e+(w64 (y3+z1)))),f,i,u0,()))
         |false=>match Rp (z2,())with
          |none=>none
          |some r=>match r with
           |.inr (ns,_)=>match pvT ns with
            |some n=>some (.inr (n,()))
            |none=>none
           |.inl _=>some (.inl (b,c,(w64 (d+(1:Int))),(w64 (e+(w64 (y3+z1)))),f,i,g,()))
def AAE[Lk](v:(Int×List (Int×Int×Int×Bool×Unit)×Int×Int×Int×Int×List Int×(Int×List (Int×Int×Unit)×List (Int×Int×Int×Unit)×Unit)×(Int×Int×(Int×Int×List (List Int)×Unit)×Unit)×Unit)):Option (wM⊕(List Int×Unit)):=cB v
theorem AHp:∀ v,ZI v=DY 1 Tryz.prog UZ ZH Tryz.f58 JG JF K8 138 [.i64] P_ v:=by intro _;kernel_rfl
abbrev AYa:=(Int×List (Int×Int×Int×Bool×Unit)×Unit)×Int×Int×Unit
abbrev AYy:=Int×List (Int×Int×Unit)×List (Int×Int×Int×Unit)×Unit
abbrev AYv:=Int×Int×(Int×Int×List (List Int)×Unit)×Unit
def b8[Lk]:(AYa×AYy×AYv×Unit)->Option (AYa×(Int×Int×List Int×Unit)×Unit):=fun(s,x,w,_)=>
 match HY (((s.1.1,(s.1.2.1,())),(s.2.1,(s.2.2.1,()))),())with
 |none=>none
 |some (y0,_)=>match(!y0)with
  |true=>some (((s.1.1,(s.1.2.1,())),(s.2.1,(s.2.2.1,()))),(1,(0,([],()))),())
  |false=>match AAE (s.1.1,s.1.2.1,s.2.1,s.2.2.1,(0:Int),(0:Int),[],(x.1,(x.2.1,(x.2.2.1,()))),(w.1,(w.2.1,((w.2.2.1.1,(w.2.2.1.2.1,(w.2.2.1.2.2.1,()))),()))),())with
   |none=>none
   |some r=>match r with
    |.inr (ns,_)=>some (((s.1.1,(s.1.2.1,())),(s.2.1,(s.2.2.1,()))),(ns.headD 0,(0,([],()))),())
    |.inl (a0,a1,a2,a3,a4,a5,a6,_)=>some (((a0,(a1,())),(a2,(a3,()))),(a4,(a5,(a6,()))),())
theorem b7:∀ v,b8 v=RT Tryz.prog UY Tryz.f13 2 MK MJ Ou {} P9 Wb b9 3 v:=by intro _;kernel_rfl
end
end Go.Pev
end
section
namespace Go.Pev.Pl
theorem MO(e:Int):Rp (e,())=if e=0 then some (.inl ())else some (.inr ([e],())):=by show Xn (e,())=_;refine((cH _).trans (AHz _).symm).trans ?_;show(match(!(ieq e (0:Int)))with|true=>some (Sum.inr ([e],()))|false=>some (Sum.inl ()))=_;rw[BL];grind
theorem Y1(e:Int):pvT [e]=some [e]:=by kernel_rfl
section
variable {n:Int} {ts:List Tie} {b c:Int} {x:Kq} {w:SB}
def Nl(n:Int)(ts:List Tie)(b c:Int)(x:Kq)(w:SB)(r:wM⊕(List Int×Unit)):Prop:=AAE (n,ts,b,c,(0:Int),(0:Int),[],x,w,())=some r
theorem ADk(x:Kq)(w:SB):AAE (n,ts,b,c,(0:Int),(0:Int),[],x,w,())=ZI (n,ts,b,c,(0:Int),(0:Int),[],x,w,()):=(cA _).trans (AHp _).symm
theorem cy{k:Int}{d:List Edge}{a:List dx}{m e:Int}(f:Kk ((n,(ts,())),x,w,())=some (k,d,a,m,e,()))(g:e≠0):Nl n ts b c x w (.inr ([e],())):=by unfold Nl;rw[ADk];obtain⟨h,i,j,⟨⟩⟩:=x;obtain⟨l,o,⟨p,q,r,⟨⟩⟩,⟨⟩⟩:=w;rw[ZI];simp only[f,MO,AY7 g,Y1]
theorem AUK{k:Int}{f:List Edge}{d:List dx}{m:Int}(o:Kk ((n,(ts,())),x,w,())=some (k,f,d,m,0,()))(s:f.length<=100000)(t:d.length<=100000){U:List Int}{q:Int}(p:DH (((f.length+d.length:Nat):Int),w.2.2.1,())=some (U,q,0,())):
  (k=1->∀ g a j e,AAX ((n,(ts,())),f,())=some (g,a,j,e,())->Nl n ts b c x w (if e=0 then .inl (g,a,w64 (b+1),w64 (c+w64 (m+q)),0,j,[],())else .inr ([e],()))) /\
  (k=2->∀ g a l e,S1 ((n,(ts,())),f,())=some ((g,(a,())),l,e,())->Nl n ts b c x w (if e=0 then .inl (g,a,w64 (b+1),w64 (c+w64 (m+q)),0,(f.length:Int),[],())else .inr ([e],()))) /\
  (k=3->∀ l e,Sp ((n,(ts,())),d,())=some (l,e,())->Nl n ts b c x w (if e=0 then .inl (n,ts,w64 (b+1),w64 (c+w64 (m+q)),0,0,l,())else .inr ([e],()))):=by
 unfold Nl;rw[ADk];obtain⟨u,v,y,⟨⟩⟩:=x;obtain⟨z,A,⟨B,C,D,⟨⟩⟩,⟨⟩⟩:=w;rw[ZI];have r:w64 ((A3 f)+(A3 d))=((f.length+d.length:Nat):Int):=by rw[A9,A9,wrap_add (by omega)]
 simp only[o,MO,AZa,r];simp only[p,MO,AZa,BL];refine⟨?_,?_,?_⟩;rintro rfl g a j e h;simp only[AZD,h,MO];by_cases i:e=0;grind;simp only[AY7 i,Y1];rintro rfl g a l e h;simp only[show decide ((2:Int)=1)=false from rfl,AZD,h,MO,A9];by_cases i:e=0;grind;simp only[AY7 i,Y1];rintro rfl l e h;simp only[show decide ((3:Int)=1)=false from rfl,show decide ((3:Int)=2)=false from rfl,AZD,h,MO];by_cases i:e=0;grind;simp only[AY7 i,Y1]
end
abbrev XA:=(Int×(List (Int×Int×Int×Bool×Unit))×Unit)×Int×Int×Unit
abbrev dT:=Int×Int×(List Int)×Unit
def tkO(s:XA):wM⊕(List Int×Unit)->Option (XA×dT×Unit)
 |.inr (ns,_)=>some (s,(ns.headD 0,(0,([],()))),())
 |.inl (a0,a1,a2,a3,a4,a5,a6,_)=>some (((a0,(a1,())),(a2,(a3,()))),(a4,(a5,(a6,()))),())
theorem Z_{n:Int}{ts:List Tie}{b c:Int}(a:HY (((n,(ts,())),(b,(c,()))),())=some (true,()))(x:Kq)(w:SB){r:wM⊕(List Int×Unit)}(h:Nl n ts b c x w r):
  E0 (((n,(ts,())),(b,(c,()))),x,w,())=tkO ((n,(ts,())),(b,(c,()))) r:=by refine((Wc _).trans (b7 _).symm).trans ?_;unfold Nl at h;obtain⟨d,e,f,⟨⟩⟩:=x;obtain⟨g,i,⟨j,k,l,⟨⟩⟩,⟨⟩⟩:=w;unfold b8;dsimp only;simp only[a,AY4];rw[h];cases r<;>rfl
theorem AEs{n:Int}{ts:List Tie}{b c:Int}(a:HY (((n,(ts,())),(b,(c,()))),())=some (false,()))(x:Kq)(w:SB):
  E0 (((n,(ts,())),(b,(c,()))),x,w,())=some (((n,(ts,())),(b,(c,()))),(1,(0,([],()))),()):=by refine((Wc _).trans (b7 _).symm).trans ?_;unfold b8;grind
theorem ARE{N:Nat}{ts:List Tie}{b c:Int}(h:RG2 N ts)(t:pH ts)(m:HY ((((N:Int),(ts,())),(b,(c,()))),())=some (true,()))(xs:List Edge)(w:SB)(n:FO xs.length w.2.2.1):
  ∃ (i:XA) (r:dT),E0 ((((N:Int),(ts,())),(b,(c,()))),((2,(xs,([],()))):Kq),w,())=some (i,r,()) /\
   (r.1=0->∃ O b' c',i=(((N:Int),(O,())),(b',(c',())))/\O.length<=ts.length/\YB N xs/\RG2 N O/\O.map ed=(ts.map ed).filter (fun e=>decide (e∉Cr N ts xs))):=by
 have d:∀ {e:Int},e≠0->Nl (N:Int) ts b c ((2,(xs,([],()))):Kq) w (.inr ([e],()))->∃ (i:XA) (r:dT),E0 ((((N:Int),(ts,())),(b,(c,()))),((2,(xs,([],()))):Kq),w,())=some (i,r,()) /\
   (r.1=0->∃ O b' c',i=(((N:Int),(O,())),(b',(c',())))/\O.length<=ts.length/\YB N xs/\RG2 N O/\O.map ed=(ts.map ed).filter (fun e=>decide (e∉Cr N ts xs))):=fun {e} g hd=>⟨_,_,Z_ m _ w hd,fun q=>absurd q g⟩
 have L:=h.ht;by_cases k:WR ((2,(xs,([],()))):Kq);rotate_left;exact d (e:=1) (by omega) (cy (AJP (w:=w) (by omega) (fun q=>k q.2)) (by omega));by_cases o:∃ v∈EI ((2,(xs,([],()))):Kq),(N:Int)<=v;exact d (e:=10) (by omega) (cy (ABV h k o) (by omega));have f:∀ v∈EI ((2,(xs,([],()))):Kq),v<(N:Int):=fun v u=>Int.not_le.1 fun q=>o ⟨v,u,q⟩;obtain⟨M,P,y⟩:=wN k;have j:=APn h k f (w:=w) (.inr rfl) fun _=>n;by_cases p:PS w;rotate_left;rw[AY7 p]at j;exact d (e:=1) (by omega) (cy j (by omega));rw[AZA p,AZA rfl]at j;dsimp only at j;have z:=jU N h.hN ts xs;have A:=AUe N ts xs;obtain⟨U,q,_,_,_,B⟩:=n ((Cr N ts xs).length+([]:List dx).length) (by simp only[AZP];omega);obtain⟨_,C,_⟩:=AUK (b:=b) (c:=c) j (by omega) (by simp) B;obtain⟨O,Q,e,D,E,F⟩:=rn h t (Cr N ts xs) (by omega);have hd:=C rfl _ _ _ _ D;by_cases g:e=0;rotate_left;rw[AY7 g]at hd;exact d g hd;rw[AZA g]at hd;obtain⟨_,G,s⟩:=F g;rw[AAQ]at s;refine⟨_,_,Z_ m _ w hd,fun _=>⟨O,_,_,rfl,E,fun x l => ?_,G,s⟩⟩;have a:=y x l;have H:x.1∈EI ((2,(xs,([],()))):Kq):=by unfold EI;exact AY5.2 (.inl (Aa2.2 ⟨x,l,by simp⟩))
 have I:x.2.1∈EI ((2,(xs,([],()))):Kq):=by unfold EI;exact AY5.2 (.inl (Aa2.2 ⟨x,l,by simp⟩))
 have J:=f _ H;have K:=f _ I;have R:=h.hN;have S:=h.h1;unfold Fz at a;exact⟨⟨by omega,by omega,a.1,J⟩,by omega,by omega,a.2.2.1,K⟩
end Go.Pev.Pl
end
section
namespace Go.Pev.Pl.SW
open Go.Sort
def ok(_:Int):Prop:=True
def lt(x y:Int):Bool:=decide (x<y)
theorem swo:SWO lt:=⟨fun x=>by simp[lt],fun x y z a b=>by simp only[lt,AY2]at *;omega,fun x y z a b=>by simp only[lt,AZc]at *;omega⟩
theorem mv{x y:Int}(_:ok x)(_:ok y):∃ r,DB (x,y,())=some (r,())/\tId r=lt x y:=by refine⟨decide (x<y),?_,rfl⟩;rw[tV,mw];simp only[ACz,zW,BG,B1];by_cases h:x<y<;>simp[h]
noncomputable def S:SG.SP Int Bool:=⟨(0:Int),DB,tId,ok,0,trivial,lt,swo,fun a b=>mv a b⟩
end Go.Pev.Pl.SW
namespace Go.Pev.Pl
def sorted(xs:List Int):List Int:=xs.mergeSort (fun x y=>decide (x<=y))
theorem AE3(xs:List Int)(h:xs.length<4294967296):qa (xs,())=some (sorted xs,()):=by
 obtain⟨ys,e,d,f⟩:=SG.IJ SW.S xs h (fun _ _=>trivial);have g:qa (xs,())=some (ys,()):=e;rw[g];have i:(sorted xs).Perm xs:=Abf _ _;have j:(sorted xs).Pairwise (·<=·):=by have:=AbI (le:=fun x y:Int=>decide (x<=y)) (fun a b c d f=>by simp at *;omega) (fun a b=>by simp;omega) xs;exact this.imp fun h=>by simpa using h
 have k:ys.Pairwise (·<=·):=f.imp fun {a b} q=>by have:SW.lt b a=false:=q;unfold SW.lt at this;rw[AZc]at this;omega
 rw[AaW (le:=fun a b:Int=>a<=b) (fun a b _ _ d f=>by omega) k j (d.trans i.symm)]
end Go.Pev.Pl
end
section
namespace Go.Pev.Pl
section
variable {α:Type}
end
def ML(x:Int):List Int->List Int
 |[]=>[x]
 |y::ys=>if y<x then y::ML x ys else if y=x then y::ys else x::y::ys
def ups(xs:List Int):List Int:=xs.foldl (fun out x=>ML x out) []
theorem tL(x z:Int):∀ l:List Int,z∈ML x l↔z=x\/z∈l:=by
 intro l;induction l with
  |nil=>simp[ML]
  |cons y ys a=>rw[ML];split;simp only[AZJ,a];constructor;rintro (h|h|h)<;>simp[h];rintro (h|h|h)<;>simp[h];split;rename_i h;subst h;simp;simp
abbrev Up(l:List Int):Prop:=l.Pairwise (· < ·)
theorem AQn(x:Int):∀ l:List Int,Up l->Up (ML x l):=by
 intro l;induction l with
  |nil=>intro _;simp[ML]
  |cons y ys b=>intro h;have h:=AZj.1 h;rw[ML];split;refine AZj.2 ⟨fun z a => ?_,b h.2⟩;rcases(tL x z ys).1 a with rfl|a;assumption;exact h.1 z a;split;exact AZj.2 h;refine AZj.2 ⟨fun z a => ?_,AZj.2 h⟩;rcases AZJ.1 a with rfl|a;omega;have:=h.1 z a;omega
theorem cX:∀ (xs out:List Int),Up out->Up (xs.foldl (fun out x=>ML x out) out)/\∀ z,z∈xs.foldl (fun out x=>ML x out) out↔z∈out\/z∈xs:=by
 intro xs;induction xs with
  |nil=>intro out h;exact⟨h,fun z=>by simp⟩
  |cons x xs a=>intro out h;obtain⟨b,c⟩:=a (ML x out) (AQn x out h);refine⟨b,fun z => ?_⟩;rw[AZm,c z,tL,AZJ];constructor;rintro ((h|h)|h)<;>simp[h];rintro (h|h|h)<;>simp[h]
theorem N_(xs:List Int):Up (ups xs):=(cX xs [] List.Pairwise.nil).1
theorem S_(xs:List Int)(z:Int):z∈ups xs↔z∈xs:=by have:=(cX xs [] List.Pairwise.nil).2 z;unfold ups;simpa using this
theorem Pk:∀ {l m:List Int},Up l->Up m->(∀ z,z∈l↔z∈m)->l=m:=by
 intro l;induction l with
  |nil=>
   intro m _ _ h;cases m with
    |nil=>rfl
    |cons y ys=>exact absurd ((h y).2 AbM) (by simp)
  |cons x xs f=>
   intro m a b h;cases m with
    |nil=>exact absurd ((h x).1 AbM) (by simp)
    |cons y ys=>
     have a:=AZj.1 a;have b:=AZj.1 b;have e:x=y:=by rcases AZJ.1 ((h x).1 AbM)with e|e;exact e;rcases AZJ.1 ((h y).2 AbM)with d|d;exact d.symm;have:=a.1 y d;have:=b.1 x e;omega
     subst e;congr 1;refine f a.2 b.2 fun z => ?_;have:=h z;simp only[AZJ]at this;constructor;intro c;rcases this.1 (.inr c)with e|e;subst e;have:=a.1 z c;omega;exact e;intro c;rcases this.2 (.inr c)with e|e;subst e;have:=b.1 z c;omega;exact e
def sq(o:List Int):Nat->List Int
 |0=>[]
 |n+1=>if 0<n/\o.getD n 0=o.getD (n-1) 0 then sq o n else sq o n++[o.getD n 0]
theorem AVe(o:List Int):∀ n,(sq o n).length<=n:=by
 intro n;induction n with
  |zero=>simp[sq]
  |succ n a=>rw[sq];split;omega;simp;omega
theorem ARI(o:List Int):∀ n,0<n->∃ l,sq o n=l++[o.getD (n-1) 0]:=by
 intro n;induction n with
  |zero=>intro h;omega
  |succ n a=>intro _;rw[sq];split;rename_i h;obtain⟨l,e⟩:=a h.1;exact⟨l,by rw[e,<- h.2];rfl⟩;exact⟨_,rfl⟩
theorem AVd(o:List Int)(z:Int):∀ n,z∈sq o n↔∃ k,k<n/\z=o.getD k 0:=by
 intro n;induction n with
  |zero=>simp[sq]
  |succ n c=>rw[sq];split;rename_i h;rw[c];constructor;rintro⟨k,a,e⟩;exact⟨k,by omega,e⟩;rintro⟨k,a,e⟩;by_cases b:k=n;subst b;exact⟨k-1,by omega,by rw[e,h.2]⟩;exact⟨k,by omega,e⟩;rw[AY5,c,AZW];constructor;rintro (⟨k,a,e⟩|e);exact⟨k,by omega,e⟩;exact⟨n,by omega,e⟩;rintro⟨k,a,e⟩;by_cases b:k=n;subst b;exact .inr e;exact .inl ⟨k,by omega,e⟩
theorem AX0(o:List Int)(k:∀ i,i+1<o.length->o.getD i 0<=o.getD (i+1) 0):∀ n,n<=o.length->Up (sq o n):=by
 intro n;induction n with
  |zero=>intro _;simp[sq]
  |succ n g=>
   intro p;rw[sq];split;exact g (by omega);rename_i h;have d:=g (by omega);refine AbD.2 ⟨d,by simp,fun a c b j => ?_⟩;rw[AZW]at j;subst j;by_cases f:0<n;obtain⟨l,e⟩:=ARI o n f;have m:o.getD (n-1) 0<o.getD n 0:=by have:=k (n-1) (by omega);rw[Nat.sub_add_cancel f]at this;have q:¬ o.getD n 0=o.getD (n-1) 0:=fun e=>h ⟨f,e⟩;omega
   rw[e]at c d;rcases AY5.1 c with c|c;have:=(AbD.1 d).2.2 a c (o.getD (n-1) 0) (by simp);omega;rw[AZW]at c;omega;have:n=0:=by omega
   subst this;simp[sq]at c
theorem u7(o:List Int)(b:Nat)(A:1<=b)(B:o.length<4294967296):∀ (k t w:Nat) (a:List Int) (n:Nat),t+k=o.length-b->1<=t->b+t<=o.length->a.length=o.length->w=(sq o (b+t)).length->a.take w=sq o (b+t)->w<b+t->a.drop (b+t-1)=o.drop (b+t-1)->k<n ->
  ∃ j:List Int,BA Ig n (a,(w:Int),(b:Int),((o.length-b:Nat):Int),(t:Int),())=some (.inl (j,(((sq o o.length).length:Nat):Int),()))/\j.length=o.length/\j.take (sq o o.length).length=sq o o.length:=by
 intro k;induction k with
  |zero=>
   intro t w a n q r l f d g m hd s;obtain⟨n,rfl⟩:∃ k,n=k+1:=⟨n-1,by omega⟩
   rw[BA,Ig];simp only[EA,A4];rw[AYz (by omega)];have e:b+t=o.length:=by omega
   rw[e]at d g;exact⟨a,by rw[d],f,by rw[<- d];exact g⟩
  |succ k p=>
   intro t w a n q r l f d g m hd s;obtain⟨n,rfl⟩:∃ k,n=k+1:=⟨n-1,by omega⟩
   rw[BA,Ig];simp (disch:=omega) only[EA,A4,Bx,A6];rw[AY0 (by omega)];have C:(C' b (o.length-b) a).length=o.length-b:=by simp[C',f]
   obtain⟨D,u⟩:=AAK (xs:=C' b (o.length-b) a) (n:=t) (by omega);obtain⟨E,v⟩:=AAK (xs:=C' b (o.length-b) a) (n:=t-1) (by omega);obtain⟨F,x⟩:=AAK (xs:=a) (n:=w) (by omega);have y:a.getD (b+t) 0=o.getD (b+t) 0:=JJ hd (by omega);have z:a.getD (b+(t-1)) 0=o.getD (b+t-1) 0:=by rw[show b+(t-1)=b+t-1 by omega];exact JJ hd (by omega)
   simp only[u,v,x,A7,Bb,y,z,B1];have c:sq o (b+(t+1))=if 0<b+t/\o.getD (b+t) 0=o.getD (b+t-1) 0 then sq o (b+t)else sq o (b+t)++[o.getD (b+t) 0]:=rfl
   have i:a.drop (b+t)=o.drop (b+t):=by have:=AaB (List.drop 1) hd;simp only[AaO]at this;rwa [show b+t-1+1=b+t by omega]at this
   by_cases h:o.getD (b+t) 0=o.getD (b+t-1) 0;rw[AZA ⟨by omega,h⟩]at c;rw[h];simp only[BEq.rfl,AY4];exact p (t+1) w a n (by omega) (by omega) (by omega) f (by rw[c];exact d) (by rw[c];exact g) (by omega) (by rw[show b+(t+1)-1=b+t by omega];exact i) (by omega);rw[AY7 (fun e=>h e.2)]at c;rw[show(o.getD (b+t) 0==o.getD (b+t-1) 0)=false by simpa using h];simp only[AZO];refine p (t+1) (w+1) (a.set w (o.getD (b+t) 0)) n (by omega) (by omega) (by omega) (by simp[f]) (by rw[c];simp[d]) ?_ (by omega) ?_ (by omega);rw[c,<- g,AZf (by simp;omega)];simp[Abg];rw[show b+(t+1)-1=b+t by omega,Abh (by omega)];exact i
theorem oS(o:List Int)(f:o.length<4294967296):∀ (k i n:Nat),i+k=o.length->1<=i->sq o i=o.take i->k<n ->
  ∃ a:List Int,(BA E6 n (o,(i:Int),())=some (.inl (a,(((sq o o.length).length:Nat):Int),()))/\a.take (sq o o.length).length=sq o o.length/\a.length=o.length) \/
   (BA E6 n (o,(i:Int),())=some (.inr (.inl (o,())))/\sq o o.length=o):=by
 intro k;have v:4294967296<many:=by simp only[many];omega
 induction k with
  |zero=>
   intro i n g d c j;obtain⟨n,rfl⟩:∃ k,n=k+1:=⟨n-1,by omega⟩
   rw[BA,E6];simp only[A9,A4];rw[AYz (by omega)];have e:i=o.length:=by omega
   subst e;exact⟨o,.inr ⟨rfl,by simpa using c⟩⟩
  |succ k m=>
   intro i n g d c j;obtain⟨n,rfl⟩:∃ k,n=k+1:=⟨n-1,by omega⟩
   rw[BA,E6];simp (disch:=omega) only[A9,A4,Bx,A6,Cd (0:Int),Ek,B1];rw[AY0 (by omega)];have b:sq o (i+1)=if 0<i/\o.getD i 0=o.getD (i-1) 0 then sq o i else sq o i++[o.getD i 0]:=rfl
   by_cases h:o.getD i 0=o.getD (i-1) 0;rw[AZA ⟨by omega,h⟩]at b;rw[h];simp (disch:=omega) only[BEq.rfl,Gh,BO,AZT,AZ4,EA];have p:(sq o (i+1)).length=i:=by rw[b,c,AZU];omega
   obtain⟨a,e,w,q⟩:=u7 o i d f (o.length-i-1) 1 i o many (by omega) (by omega) (by omega) rfl p.symm (by rw[b,c]) (by omega) rfl (by omega);have r:BA Ig many (o,(i:Int),(i:Int),((o.length-i:Nat):Int),(1:Int),())=_:=e;have s:=AVe o o.length;simp only[r];rw[Gh (by omega) (by omega)];simp only[AZT,AZ4,EA];have t:(Bp (sq o o.length).length (a.length-(sq o o.length).length) 0 a).length=a.length:=by simp[Bp];omega
   have u:Ci (Bp (sq o o.length).length (a.length-(sq o o.length).length) 0 a) (0:Int) (((sq o o.length).length:Nat):Int)=some _:=Gh (l:=0) (by omega) (by omega);simp only[u];refine⟨Bp (sq o o.length).length (a.length-(sq o o.length).length) 0 a,.inl ⟨?_,?_,by omega⟩⟩;simp only[Aa1,AZU];rw[AZ9 (by omega)];rw[Bp,Aa0 (by simp;omega),Aaq,Nat.min_self];exact q;rw[AY7 (fun e=>h e.2)]at b;rw[show(o.getD i 0==o.getD (i-1) 0)=false by simpa using h];simp only[];refine m (i+1) n (by omega) (by omega) ?_ (by omega);rw[b,c,AZf (by omega)];simp[show i<o.length by omega]
theorem oR(o:List Int)(d:o.length<4294967296):∃ a:List Int,T_ (o,())=some (a,(((sq o o.length).length:Nat):Int),())/\a.take (sq o o.length).length=sq o o.length:=by
 have g:4294967296<many:=by simp only[many];omega
 rw[X8,R5,BG,A9];by_cases h:o.length<2;rw[AY0 (by omega)];match o,h with
 |[],_=>exact⟨[],rfl,rfl⟩
 |[x],_=>exact⟨[x],rfl,rfl⟩
 rw[AYz (by omega)];simp only[BO];have f:sq o 1=o.take 1:=by
  match o,h with
  |x::xs,_=>rfl
 obtain⟨a,⟨e,b,i⟩|⟨e,b⟩⟩:=oS o d (o.length-1) 1 many (by omega) (by omega) f (by omega);have c:BA E6 many (o,(1:Int),())=_:=e;simp only[c];exact⟨a,rfl,b⟩;have c:BA E6 many (o,(1:Int),())=_:=e;simp only[c,b];exact⟨o,by rw[A9],by simp⟩
theorem sorted_perm(xs:List Int):(sorted xs).Perm xs:=Abf _ _
theorem xP(xs:List Int):(sorted xs).length=xs.length:=(sorted_perm xs).length_eq
theorem AE2(xs:List Int):(sorted xs).Pairwise (·<=·):=by have:=AbI (le:=fun x y:Int=>decide (x<=y)) (fun a b c d e=>by simp at *;omega) (fun a b=>by simp;omega) xs;simpa [sorted]using this
theorem AEz(xs:List Int):sq (sorted xs) (sorted xs).length=ups xs:=by refine Pk (AX0 _ (fun i hi => ?_) _ (AY8 _)) (N_ xs) fun z => ?_;have:=AaH.1 (AE2 xs) i (i+1) (by omega) hi (by omega);simpa [AZK,hi,show i<(sorted xs).length by omega]using this;rw[AVd,S_,<- (sorted_perm xs).mem_iff];constructor;rintro⟨k,a,rfl⟩;simp[a];intro h;obtain⟨k,a,e⟩:=AZv h;exact⟨k,a,by simp[a,e]⟩
theorem ab(xs:List Int)(h:xs.length<4294967296):rising (xs,())=some (ups xs,()):=by rw[iR,ae,dG (by omega)];simp only[AE3 xs h];obtain⟨a,e,b⟩:=oR (sorted xs) (by rw[xP];exact h);simp only[e,EA,CT];rw[b,AEz]
theorem ATI(x:Int)(l:List Int):ML x l=if l[(l.takeWhile (fun y=>decide (y<x))).length]? = some x then l else
  l.take (l.takeWhile (fun y=>decide (y<x))).length++[x]++l.drop (l.takeWhile (fun y=>decide (y<x))).length:=by
 induction l with
  |nil=>rfl
  |cons y ys a=>rw[ML];by_cases h:y<x;rw[AZA h,List.takeWhile_cons_of_pos (by simpa using h)];simp only[AZC,List.getElem?_cons_succ,List.take_succ_cons,List.drop_succ_cons];rw[a];split<;>simp;rw[AY7 h,List.takeWhile_cons_of_neg (by simpa using h)];simp
theorem AN0(x:Int)(l:List Int):(ML x l).length<=l.length+1:=by
 induction l with
  |nil=>simp[ML]
  |cons y ys a=>rw[ML];split;simp;omega;split<;>simp
theorem AKH(xs:List Int)(x:Int):ups (xs++[x])=ML x (ups xs):=by simp[ups,Aac]
theorem Ym(xs:List Int):(ups xs).length<=xs.length:=by
 suffices h:∀ (xs out:List Int),(xs.foldl (fun out x=>ML x out) out).length<=out.length+xs.length by have:=h xs [];simpa [ups]using this
 intro xs;induction xs with
  |nil=>intro out;simp
  |cons x xs a=>intro out;have b:=a (ML x out);have c:=AN0 x out;simp only[AZm,AZC];omega
theorem q9(xs out:List Int)(i:Nat)(hi:i<xs.length)(f:out.length<4294967296):∀ (m k n:Nat),out.length-k=m->k<=out.length->m<n ->
  BA IL n (xs,out,(i:Int),(k:Int),())=some (.inl (xs,out,(i:Int),((k+((out.drop k).takeWhile (fun y=>decide (y<xs.getD i 0))).length:Nat):Int),())):=by
 intro m;induction m with
  |zero=>
   intro k n c b d;obtain⟨n,rfl⟩:∃ k,n=k+1:=⟨n-1,by omega⟩
   rw[BA,IL];simp only[A9,A4];rw[AYz (by omega),Ab2 (by omega)];rfl
  |succ m e=>
   intro k n c b d;obtain⟨n,rfl⟩:∃ k,n=k+1:=⟨n-1,by omega⟩
   have a:k<out.length:=by omega
   rw[BA,IL];simp (disch:=omega) only[A9,Cd (0:Int),Ek,A6,BG];rw[AY0 (show(k:Int)<(out.length:Int) by omega)];have hd:out.drop k=out.getD k 0::out.drop (k+1):=by rw[AZh a];simp[a]
   rw[hd];by_cases h:out.getD k 0<xs.getD i 0;rw[List.takeWhile_cons_of_pos (by simpa using h)];simp only[h,AZD];rw[e (k+1) n (by omega) (by omega) (by omega)];simp only[AZC];congr 6;omega;rw[List.takeWhile_cons_of_neg (by simpa using h)];simp only[h,AZQ];rfl
theorem lu(xs:List Int)(w:xs.length<2147483648):∀ (m i n:Nat),xs.length-i=m->i<=xs.length->m<n ->
  BA IM n (xs,ups (xs.take i),(i:Int),())=some (.inl (ups xs,())):=by
 have x:4294967296<many:=by simp only[many];omega
 intro m;induction m with
  |zero=>
   intro i n q c r;obtain⟨n,rfl⟩:∃ k,n=k+1:=⟨n-1,by omega⟩
   rw[BA,IM];simp only[A9,A4];rw[AYz (by omega),AZq (by omega)]
  |succ m s=>
   intro i n q c r;obtain⟨n,rfl⟩:∃ k,n=k+1:=⟨n-1,by omega⟩
   have hi:i<xs.length:=by omega
   have t:=Ym (xs.take i);rw[AZU]at t;have d:ups (xs.take (i+1))=ML (xs.getD i 0) (ups (xs.take i)):=by rw[<- AKH,AZf hi];simp[hi]
   have a:=s (i+1) n (by omega) (by omega) (by omega);rw[d]at a;rw[BA,IM];simp only[A9,A4,BO];rw[AY0 hi];generalize ups (xs.take i)=out at *;have u:=q9 xs out i hi (by omega) out.length 0 many (by omega) (by omega) (by omega);have e:BA IL many (xs,out,(i:Int),(0:Int),())=_:=u;simp only[e];rw[ATI]at a;simp only[Aa1,AZ3]at *;have v:(out.takeWhile (fun y=>decide (y<xs.getD i 0))).length<=out.length:=(List.takeWhile_prefix _).length_le;generalize (out.takeWhile (fun y=>decide (y<xs.getD i 0))).length=p at *;simp (disch:=omega) only[Cd (0:Int),Ek,A6,A4];have f:Ci out (0:Int) (p:Int)=some ((out.take p).drop 0):=Gh (l:=0) (by omega) v;have g:C' 0 p out=out.take p:=by simp[C']
   have j:C' p (out.length-p) out=out.drop p:=by rw[C',AZq (by simp)]
   have o:(out.take p).length=p:=by rw[AZU];omega
   by_cases h:p<out.length;rw[AY0 h];simp (disch:=omega) only[Cd (0:Int),B1];by_cases b:out.getD p 0=xs.getD i 0;rw[AZA (by simp[h]at b |-;exact b)]at a;rw[b];simp only[BEq.rfl];exact a;rw[AY7 (by simp[h]at b |-;exact b)]at a;rw[show(out.getD p 0==xs.getD i 0)=false by simpa using b];simp (disch:=omega) only[f,Aa1,A9,o,EA,g,Gh,AZT,AZ4,j,Cd (0:Int),Bi,AZk,AZF,AZC,AZP,CN];exact a;rw[AYz h];rw[AY7 (by simp[show out.length<=p by omega])]at a;simp (disch:=omega) only[f,Aa1,A9,o,EA,g,Gh,AZT,AZ4,j,Cd (0:Int),Bi,AZk,AZF,AZC,AZP,CN];exact a
theorem lq(xs:List Int)(h:xs.length<2147483648):Ss (xs,())=some (ups xs,()):=by
 have b:4294967296<many:=by simp only[many];omega
 rw[XT,RP];simp only[BO];have e:=lu xs h xs.length 0 many (by omega) (by omega) (by omega);have a:BA IM many (xs,[],(0:Int),())=_:=e;rw[a]
theorem Se(b:Int):sized (b,())=some (decide (1<=b/\b<=10),()):=by rw[qc,lV,BQ,BQ];by_cases h:1<=b<;>simp[h]
def H(b:Nat)(k:Int):Nat:=(k*2654435761 % 4294967296/2 ^ (32-b)).toNat
theorem AQb(b:Nat)(k:Int):((H b k:Nat):Int)=k*2654435761 % 4294967296/2 ^ (32-b):=by rw[H,Int.toNat_of_nonneg];exact Int.ediv_nonneg (Int.emod_nonneg _ (by omega)) (Int.pow_nonneg (by omega))
theorem AJ0(b:Nat)(k:Int)(e:b<=10):H b k<2 ^ b:=by
 have c:=AQb b k;have a:k*2654435761 % 4294967296/2 ^ (32-b)<2 ^ b:=by apply Int.ediv_lt_of_lt_mul (Int.pow_pos (by omega));rw[<- Int.pow_add,show b+(32-b)=32 by omega];exact Int.emod_lt_of_pos _ (by omega)
 rw[<- c]at a;have d:((2:Int) ^ b)=((2 ^ b:Nat):Int):=by simp
 rw[d]at a;omega
theorem AN9(b:Nat)(k:Int)(d:1<=b)(a:b<=10):home ((b:Int),k,())=some (((H b k:Nat):Int),()):=by have e:=AJ0 b k a;have c:2 ^ b<=2 ^ 10:=AZw (by omega) a;rw[ADM,AAM,Se,AY0 (by omega)];simp only[AY4];rw[BI (by omega),u64_in (by omega),show(32:Int)-(b:Int)=((32-b:Nat):Int) by omega];rw[RJ,lY,AY7 (by omega),AZX,show min (32-b) (IntKind.bits .u32)=32-b from AZ9 (by show 32-b<=32;omega),Abe _ (Int.pow_nonneg (by omega)),IntKind.wrap_u32,<- AQb];simp only[];rw[BI (by omega)]
theorem tv(b:Nat)(g:b<=10):∀ (k i x n:Nat),i+k=32-b->x<4294967296->k<n ->
  BA MR n ((b:Int),(x:Int),(i:Int),())=some (.inl (((x/2 ^ k:Nat):Int),())):=by
 intro k;induction k with
  |zero=>
   intro i x n a c d;obtain⟨n,rfl⟩:∃ k,n=k+1:=⟨n-1,by omega⟩
   rw[BA,MR,BG,BI (by omega),AYz (by omega)];simp
  |succ k f=>
   intro i x n a c d;obtain⟨n,rfl⟩:∃ k,n=k+1:=⟨n-1,by omega⟩
   rw[BA,MR,BG,BI (by omega),AY0 (by omega)];have e:quo? .u64 (x:Int) 2=some ((x/2:Nat):Int):=by rw[OV,eP,AY7 (by omega),Aao (by omega),u64_in (by omega)];rfl
   simp (disch:=omega) only[e,A6];rw[f (i+1) (x/2) n (by omega) (by omega) (by omega),Nat.div_div_eq_div_mul,<- Nat.pow_succ']
theorem AYd(b:Nat)(k:Int)(x:Nat)(a:k*2654435761 % 4294967296=(x:Int)):x/2 ^ (32-b)=H b k:=by
 have:=AQb b k;rw[a]at this;have c:((2:Int) ^ (32-b))=((2 ^ (32-b):Nat):Int):=by simp
 rw[c,<- Int.natCast_ediv]at this;exact(Int.ofNat.inj this).symm
theorem AAN(b:Nat)(k:Int)(i:1<=b)(a:b<=10)(j:0<=k/\k<=4294967295):nV ((b:Int),k,())=some (((H b k:Nat):Int),()):=by
 have l:4294967296<many:=by simp only[many];omega
 have m:=AJ0 b k a;have f:2 ^ b<=2 ^ 10:=AZw (by omega) a;obtain⟨x,c⟩:∃ x:Nat,k*2654435761 % 4294967296=(x:Int):=AY6 (Int.emod_nonneg _ (by decide));have g:rem? (k*2654435761) 4294967296=some (x:Int):=by rw[l9,AFf,AY7 (by omega),Abd (by omega),c]
 have d:x<4294967296:=by have:=Int.emod_lt_of_pos (k*2654435761) (show(0:Int)<4294967296 by decide);rw[c]at this;omega
 have e:=tv b a (32-b) 0 x many (by omega) d (by omega);rw[AYd b k x c]at e;have h:BA MR many ((b:Int),(x:Int),(0:Int),())=_:=e;rw[jS,cP,BG,BG,AYz (by omega),AYz (by omega)];simp only[];rw[u64_in (n:=k) (by omega),u64_in (n:=k*2654435761) (by omega)];simp only[g,BO,h];rw[BI (by omega)]
def way(stop:Nat->Bool)(n p:Nat):Nat->Nat
 |0=>0
 |m+1=>if stop p then 0 else 1+way stop n ((p+1) % n) m
theorem AKG{stop:Nat->Bool}{n:Nat}(d:0<n):∀ (m p:Nat),p<n->(∃ j,j<m/\stop ((p+j) % n)=true) ->
  way stop n p m<m/\stop ((p+way stop n p m) % n)=true/\∀ j,j<way stop n p m->stop ((p+j) % n)=false:=by
 intro m;induction m with
  |zero=>rintro p _ ⟨j,h,_⟩;omega
  |succ m f=>
   rintro p a ⟨j,g,b⟩;rw[way];by_cases h:stop p=true;rw[AZA h];exact⟨by omega,by rw[AZ6,AZz a];exact h,fun j g=>by omega⟩;rw[AY7 h];have k:j≠0:=fun e=>by subst e;rw[AZ6,AZz a]at b;exact h b
   have sh:∀ i,((p+1) % n+i) % n=(p+(1+i)) % n:=fun i=>by rw[Nat.mod_add_mod,Aa9]
   obtain⟨q,c,l⟩:=f ((p+1) % n) (AbO _ d) ⟨j-1,by omega,by rw[sh,show 1+(j-1)=j by omega];exact b⟩;rw[sh]at c;refine⟨by omega,c,fun i hi => ?_⟩;by_cases o:i=0;subst o;rw[AZ6,AZz a];simpa using h;have:=l (i-1) (by omega);rw[sh,show 1+(i-1)=i by omega]at this;exact this
theorem AQP(p b:Nat)(g:p+1<9223372036854775808)(c:b<=10):w64 ((BitVec.ofInt (IntKind.bits .i64) ((p+1:Nat):Int) &&& BitVec.ofInt (IntKind.bits .i64) ((2 ^ b-1:Nat):Int)).toNat)=(((p+1) % 2 ^ b:Nat):Int):=by
 have d:2 ^ b<=2 ^ 10:=AZw (by omega) c;have e:0<2 ^ b:=AaI b;have f:(p+1) % 2 ^ b<2 ^ b:=AbO _ e
 rw[BitVec.toNat_and,Aak,Aak,Aat,Aat,
  AZz (a:=p+1) (by show p+1<18446744073709551616;omega),AZz (a:=2 ^ b-1) (by show 2 ^ b-1<18446744073709551616;omega),Nat.and_two_pow_sub_one_eq_mod,BI (by omega)]
def DP(c:List Int)(f:List Bool)(k:Int)(p:Nat):Bool := !(f.getD p false && !(c.getD p 0==k))
theorem xt(k s:Int)(c:List Int)(f:List Bool)(b:Nat)(q:b<=10)(x:c.length=2 ^ b)(y:f.length=2 ^ b):∀ (m p l n:Nat),p<2 ^ b->l+m<4294967296->(∃ j,j<m/\DP c f k ((p+j) % 2 ^ b)=true)->m<n ->
  BA Sy n (k,s,c,f,(p:Int),(l:Int),((2 ^ b-1:Nat):Int),())=some (.inl ((((p+way (DP c f k) (2 ^ b) p m) % 2 ^ b:Nat):Int),((l+way (DP c f k) (2 ^ b) p m:Nat):Int),())):=by
 have t:2 ^ b<=2 ^ 10:=AZw (by omega) q;have u:0<2 ^ b:=AaI b;intro m;induction m with
  |zero=>rintro p l n _ _ ⟨j,h,_⟩;omega
  |succ m v=>
   rintro p l n r z o A;obtain⟨n,rfl⟩:∃ k,n=k+1:=⟨n-1,by omega⟩
   rw[BA,Sy,way];rw[Cd false (by omega)];simp only[];by_cases a:DP c f k p=true;rw[AZA a];simp only[AZ6,AZz r];rw[DP]at a;cases d:f.getD p false;rfl;rw[d]at a;simp only[Ab4,Bool.not_not]at a;simp (disch:=omega) only[Cd (0:Int),B1,a,AY4];rw[AY7 a];rw[DP]at a;cases d:f.getD p false;rw[d]at a;simp at a;rw[d]at a;simp only[Ab4,Bool.not_not,Bool.not_eq_true]at a;simp (disch:=omega) only[Cd (0:Int),B1,a,AZO,A6];rw[AQP p b (by omega) q];obtain⟨j,B,g⟩:=o;have w:j≠0:=fun e=>by subst e;rw[AZ6,AZz r,DP,d,a]at g;cases g
   have sh:∀ i,((p+1) % 2 ^ b+i) % 2 ^ b=(p+(1+i)) % 2 ^ b:=fun i=>by rw[Nat.mod_add_mod,Aa9]
   rw[v ((p+1) % 2 ^ b) (l+1) n (AbO _ u) (by omega) ⟨j-1,by omega,by rw[sh,show 1+(j-1)=j by omega];exact g⟩ (by omega),sh,Aa9 l]
def far(b:Nat)(c:List Int)(f:List Bool)(k:Int):Nat:=way (DP c f k) (2 ^ b) (H b k) (2 ^ b)
def spot(b:Nat)(c:List Int)(f:List Bool)(k:Int):Nat:=(H b k+far b c f k) % 2 ^ b
theorem iW(k:Int)(c:List Int)(f:List Bool)(b:Nat)(h:1<=b)(a:b<=10)(g:c.length=2 ^ b)(i:f.length=2 ^ b)(d:∃ j,j<2 ^ b/\DP c f k ((H b k+j) % 2 ^ b)=true):
  rV (((b:Int),(c,(f,()))),k,())=some (((spot b c f k:Nat):Int),((1+far b c f k:Nat):Int),()):=by
 have o:4294967296<many:=by simp only[many];omega
 have l:2 ^ b<=2 ^ 10:=AZw (by omega) a;have m:0<2 ^ b:=AaI b;rw[rU,mG];simp only[AN9 b k h a,BO,A9,g];have e:=xt k (b:Int) c f b a g i (2 ^ b) (H b k) 1 many (AJ0 b k a) (by omega) d (by omega);have n:BA Sy many (k,(b:Int),c,f,((H b k:Nat):Int),(1:Int),((2 ^ b-1:Nat):Int),())=_:=e;rw[Bx ⟨m,by omega⟩];simp only[n];rfl
abbrev CF:=List Int×List Bool
def D7(b:Nat)(t:CF)(k:Int):CF:=(t.1.set (spot b t.1 t.2 k) k,t.2.set (spot b t.1 t.2 k) true)
def noT(b:Nat):CF:=(List.replicate (2 ^ b) 0,List.replicate (2 ^ b) false)
def tab(b:Nat)(l:List Int):CF:=l.foldl (D7 b) (noT b)
structure De(b:Nat)(t:CF)(ks:List Int):Prop where
 lc:t.1.length=2 ^ b
 lf:t.2.length=2 ^ b
 cnt:t.2.count true=ks.length
 sub:∀ p,t.2.getD p false=true->t.1.getD p 0∈ks
 at':∀ k∈ks,t.2.getD (spot b t.1 t.2 k) false=true/\t.1.getD (spot b t.1 t.2 k) 0=k
 near:∀ k∈ks,far b t.1 t.2 k<2 ^ b
theorem nz{f:List Bool}{n:Nat}(c:f.length=n)(h:f.count true<n):∃ p,p<n/\f.getD p false=false:=by
 apply AaR;intro a;have:f.count true=f.length:=List.count_eq_length.2 fun x b=>by
  obtain⟨i,hi,e⟩:=AZv b;cases x with
   |true=>rfl
   |false=>exact absurd ⟨i,by omega,by simp[hi,e]⟩ a
 omega
theorem AR4{b:Nat}{p:Nat}(c:b<=10)(k:Int)(a:p<2 ^ b):∃ j,j<2 ^ b/\(H b k+j) % 2 ^ b=p:=by have d:0<2 ^ b:=AaI b;have e:=AJ0 b k c;by_cases h:H b k<=p;exact⟨p-H b k,by omega,by rw[Nat.add_sub_cancel' h,AZz a]⟩;refine⟨p+2 ^ b-H b k,by omega,?_⟩;rw[show H b k+(p+2 ^ b-H b k)=p+2 ^ b by omega,Nat.add_mod_right,AZz a]
theorem Ys{b:Nat}{c:List Int}{f:List Bool}(a:b<=10)(d:f.length=2 ^ b)(h:f.count true<2 ^ b)(k:Int):∃ j,j<2 ^ b/\DP c f k ((H b k+j) % 2 ^ b)=true:=by obtain⟨p,g,e⟩:=nz d h;obtain⟨j,i,l⟩:=AR4 a k g;exact⟨j,i,by rw[l,DP,e];rfl⟩
theorem Si(b:Nat)(c:List Int)(f:List Bool)(k:Int):spot b c f k<2 ^ b:=AbO _ (AaI b)
theorem Pr{b:Nat}{c:List Int}{f:List Bool}{k:Int}(d:b<=10)(a:∃ j,j<2 ^ b/\DP c f k ((H b k+j) % 2 ^ b)=true):
  far b c f k<2 ^ b/\DP c f k (spot b c f k)=true/\∀ j,j<far b c f k->DP c f k ((H b k+j) % 2 ^ b)=false:=
 AKG (AaI b) _ _ (AJ0 b k d) a
theorem AWw{b:Nat}{c:List Int}{f:List Bool}{k:Int}{j:Nat}(e:b<=10)(g:j<2 ^ b)(a:DP c f k ((H b k+j) % 2 ^ b)=true)(l:∀ i,i<j->DP c f k ((H b k+i) % 2 ^ b)=false):far b c f k=j:=by obtain⟨n,d,m⟩:=Pr e ⟨j,g,a⟩;rcases AbU (far b c f k) j with h|h|h;have:=l _ h;rw[spot]at d;rw[d]at this;cases this;exact h;have:=m _ h;rw[a]at this;cases this
theorem De.empty{b:Nat}{t:CF}{a:List Int}(h:De b t a){k:Int}(d:k∉a)(p:Nat):DP t.1 t.2 k p = !t.2.getD p false:=by
 rw[DP];cases e:t.2.getD p false;rfl;have c:=h.sub p e;have:(t.1.getD p 0==k)=false:=by apply beq_false_of_ne;intro f;rw[f]at c;exact d c
 rw[this];rfl
theorem WL(b:Nat):De b (noT b) [] where
 lc:=by simp[noT]
 lf:=by simp[noT]
 cnt:=by simp[noT,List.count_replicate]
 sub p h:=by
  have:(noT b).2.getD p false=false:=by simp only[noT,AZK,List.getElem?_replicate];split<;>rfl
  rw[this]at h;cases h
 at' k hk:=by cases hk
 near k hk:=by cases hk
theorem Xr{α:Type}{xs:List α}{i:Nat}(x z:α)(h:i<xs.length):(xs.set i x).getD i z=x:=by simp[h]
theorem getD_set_ne{α:Type}{xs:List α}{i j:Nat}(x z:α)(h:i≠j):(xs.set i x).getD j z=xs.getD j z:=by simp[AZK,Aaw h]
theorem dB{f:List Bool}{i:Nat}(h:i<f.length)(e:f.getD i false=false):(f.set i true).count true=f.count true+1:=by
 rw[List.count_set h];have:f[i]=false:=by simpa [h]using e
 simp[this]
theorem RR{b:Nat}{t:CF}{s:List Int}(x:b<=10)(h:De b t s){k:Int}(y:k∉s)(I:s.length<2 ^ b):De b (D7 b t k) (s++[k]):=by
 have A:=Ys (c:=t.1) (k:=k) x h.lf (by rw[h.cnt];exact I);obtain⟨J,F,K⟩:=Pr x A;have o:=Si b t.1 t.2 k;rw[h.empty y]at F;have l:t.2.getD (spot b t.1 t.2 k) false=false:=by simpa using F
 have B:∀ j,j<far b t.1 t.2 k->t.2.getD ((H b k+j) % 2 ^ b) false=true:=fun j q=>by have:=K j q;rw[h.empty y]at this;simpa using this
 have f:spot b t.1 t.2 k=(H b k+far b t.1 t.2 k) % 2 ^ b:=rfl;have lc:(D7 b t k).1.length=2 ^ b:=by simp[D7,h.lc]
 have lf:(D7 b t k).2.length=2 ^ b:=by simp[D7,h.lf]
 have v:∀ p,(D7 b t k).2.getD p false=if spot b t.1 t.2 k=p then true else t.2.getD p false:=fun p=>by by_cases e:spot b t.1 t.2 k=p;rw[AZA e,D7,<- e,Xr _ _ (by rw[h.lf];exact o)];rw[AY7 e,D7,getD_set_ne _ _ e]
 have w:∀ p,(D7 b t k).1.getD p 0=if spot b t.1 t.2 k=p then k else t.1.getD p 0:=fun p=>by by_cases e:spot b t.1 t.2 k=p;rw[AZA e,D7,<- e,Xr _ _ (by rw[h.lc];exact o)];rw[AY7 e,D7,getD_set_ne _ _ e]
 have C:∀ a∈s++[k],∃ j,j<2 ^ b/\(D7 b t k).2.getD ((H b a+j) % 2 ^ b) false=true/\(D7 b t k).1.getD ((H b a+j) % 2 ^ b) 0=a /\
   ∀ i,i<j->DP (D7 b t k).1 (D7 b t k).2 a ((H b a+i) % 2 ^ b)=false:=by
  intro a d
  rcases AY5.1 d with u|u
  ·have r:a≠k:=fun e=>y (e▸u)
   obtain⟨g,m⟩:=h.at' a u
   have D:∃ j,j<2 ^ b/\DP t.1 t.2 a ((H b a+j) % 2 ^ b)=true:=⟨_,h.near a u,by
    have:DP t.1 t.2 a (spot b t.1 t.2 a)=true:=by rw[DP,g,m];simp
    exact this⟩
   obtain⟨L,P,M⟩:=Pr x D
   refine⟨far b t.1 t.2 a,L,?_,?_,fun i hi => ?_⟩
   ·rw[v];split
    ·rfl
    ·exact g
   ·rw[w];split
    ·rename_i e
     have N:spot b t.1 t.2 k=spot b t.1 t.2 a:=e
     rw[<- N,l]at g
     cases g
    ·exact m
   ·have:=M i hi
    rw[DP]at this |-
    rw[v,w]
    by_cases e:spot b t.1 t.2 k=(H b a+i) % 2 ^ b
    ·rw[<- e,l]at this
     simp at this
    ·rw[AY7 e,AY7 e];exact this
  ·rw[AZW]at u
   subst u
   refine⟨far b t.1 t.2 a,J,?_,?_,fun i hi => ?_⟩
   ·rw[v,AZA f]
   ·rw[w,AZA f]
   ·have z:=B i hi
    have G:=h.sub _ z
    have r:¬ spot b t.1 t.2 a=(H b a+i) % 2 ^ b:=fun e=>by
     rw[<- e,l]at z;cases z
    rw[DP,v,w,AY7 r,AY7 r,z]
    have:(t.1.getD ((H b a+i) % 2 ^ b) 0==a)=false:=beq_false_of_ne fun e=>by
     rw[e]at G;exact y G
    rw[this]
    rfl
 have n:∀ a∈s++[k],∃ j,far b (D7 b t k).1 (D7 b t k).2 a=j/\j<2 ^ b/\(D7 b t k).2.getD ((H b a+j) % 2 ^ b) false=true/\(D7 b t k).1.getD ((H b a+j) % 2 ^ b) 0=a:=by intro a d;obtain⟨j,q,g,m,O⟩:=C a d;exact⟨j,AWw x q (by rw[DP,g,m];simp) O,q,g,m⟩
 refine⟨lc,lf,?_,fun p E => ?_,fun a d => ?_,fun a d => ?_⟩;rw[AZF,AaL,<- h.cnt];exact dB (by rw[h.lf];exact o) l;rw[w];rw[v]at E;split;simp;rename_i e;rw[AY7 e]at E;exact AY5.2 (.inl (h.sub p E));obtain⟨j,e,q,g,m⟩:=n a d;rw[spot,e];exact⟨g,m⟩;obtain⟨j,e,q,g,m⟩:=n a d;rw[e];exact q
theorem uL{b:Nat}(g:b<=10):∀ (l:List Int) (t:CF) (a:List Int),De b t a->(a++l).Nodup->(a++l).length<2 ^ b+1->De b (l.foldl (D7 b) t) (a++l):=by
 intro l;induction l with
  |nil=>intro t a h _ _;simpa using h
  |cons x l i=>
   intro t a h c d;have e:a++x::l=(a++[x])++l:=by simp
   have f:x∉a:=fun f=>by have:=(AbT.1 c).2.2 x f x (by simp);exact this rfl
   have j:=RR g h f (by simp at d;omega);rw[e]at c d |-;exact i _ _ j c d
theorem qC{l:List Int}(h:Up l):l.Nodup:=h.imp fun h e=>by omega
theorem hJ{b:Nat}(a:b<=10){l:List Int}(h:Up l)(c:l.length<=2 ^ b):De b (tab b l) l:=by have:=uL a l (noT b) [] (WL b) (by simpa using qC h) (by simp;omega);rw[AZk]at this;exact this
def AQW(xs:List Int):Prop:=∀ x∈xs,0<=x/\x<=4294967295
theorem AQW.ups{xs:List Int}(h:AQW xs):AQW (ups xs):=fun x a=>h x ((S_ xs x).1 a)
theorem uF{xs:List Int}{i:Nat}(h:i<xs.length):xs.getD i 0∈xs:=by simp[h]
section
variable {b:Nat} (h1:1<=b) (hb:b<=10) {l:List Int} (hu:Up l) (hl:l.length<2 ^ b)
include h1 hb hu hl
theorem ACy{i:Nat}(hi:i<l.length):l.getD i 0∉l.take i:=by have c:=qC hu;intro d;have a:(l.take (i+1)).Nodup:=c.sublist (List.take_sublist _ _);rw[DX hi]at a;exact(AbT.1 a).2.2 _ d _ (by simp) rfl
theorem AHQ:∀ (m i n:Nat) (t:CF),l.length-i=m->i<=l.length->De b t (l.take i)->m<n ->
  BA TA n ((0:Int),(b:Int),t.1,t.2,l,(l.length:Int),(i:Int),())=some (.inl ((0:Int),(b:Int),((l.drop i).foldl (D7 b) t).1,((l.drop i).foldl (D7 b) t).2,())):=by
 have h:2 ^ b<=2 ^ 10:=AZw (by omega) hb;intro m;induction m with
  |zero=>
   intro i n t j hi c o;obtain⟨n,rfl⟩:∃ k,n=k+1:=⟨n-1,by omega⟩
   rw[BA,TA,A4,AYz (by omega),Ab2 (by omega)];rfl
  |succ m p=>
   intro i n t j hi c o;obtain⟨n,rfl⟩:∃ k,n=k+1:=⟨n-1,by omega⟩
   have a:i<l.length:=by omega
   have g:(l.take i).length=i:=by rw[AZU];omega
   have d:=Si b t.1 t.2 (l.getD i 0);have f:=RR hb c (ACy h1 hb hu hl a) (by omega);rw[<- DX a]at f;rw[BA,TA,A4,AY0 a];simp only[Cd (0:Int) a,Ek];rw[iW _ t.1 t.2 b h1 hb c.lc c.lf (Ys hb c.lf (by rw[c.cnt];omega) _)];simp only[];rw[Cd (0:Int) (by rw[c.lc];exact d)];simp only[];rw[Cd false (by rw[c.lf];exact d)];simp only[FX];rw[A6 (by omega)];have e:=p (i+1) n (D7 b t (l.getD i 0)) (by omega) (by omega) f (by omega);have hd:l.drop i=l.getD i 0::l.drop (i+1):=by rw[AZh a];simp[a]
   rw[hd,AZm];exact e
theorem ml(k:Int)(t:CF)(q:List Int)(f:De b t q)(r:k∉q)(i:Nat):∀ (m p n:Nat),p<2 ^ b->(∃ j,j<m/\DP t.1 t.2 k ((p+j) % 2 ^ b)=true)->m<n ->
  BA WS n ((b:Int),(0:Int),((2 ^ b:Nat):Int),l,(b:Int),t.1,t.2,(i:Int),(p:Int),())=some (.inl ((b:Int),(0:Int),((2 ^ b:Nat):Int),l,(b:Int),t.1,t.2,(i:Int),(((p+way (DP t.1 t.2 k) (2 ^ b) p m) % 2 ^ b:Nat):Int),())):=by
 have s:2 ^ b<=2 ^ 10:=AZw (by omega) hb;have u:0<2 ^ b:=AaI b;intro m;induction m with
  |zero=>rintro p n _ ⟨j,h,_⟩;omega
  |succ m v=>
   rintro p n g o y;obtain⟨n,rfl⟩:∃ k,n=k+1:=⟨n-1,by omega⟩
   rw[BA,WS,way];rw[Cd false (by rw[f.lf];exact g)];simp only[Ek];by_cases a:DP t.1 t.2 k p=true;rw[AZA a];rw[f.empty r]at a;have c:t.2.getD p false=false:=by simpa using a
   simp only[c,AZ6,AZz g];rw[AY7 a];obtain⟨j,z,d⟩:=o;have w:j≠0:=fun e=>by subst e;rw[AZ6,AZz g]at d;exact a d
   rw[f.empty r]at a;have c:t.2.getD p false=true:=by simpa using a
   have x:rem? (((p+1:Nat)):Int) ((2 ^ b:Nat):Int)=some (((p+1) % 2 ^ b:Nat):Int):=by rw[l9,AFf,AY7 (by omega),Abd (by omega)];rfl
   rw[A6 (by omega)];simp only[c,x];have sh:∀ i,((p+1) % 2 ^ b+i) % 2 ^ b=(p+(1+i)) % 2 ^ b:=fun i=>by rw[Nat.mod_add_mod,Aa9]
   rw[v ((p+1) % 2 ^ b) n (AbO _ u) ⟨j-1,by omega,by rw[sh,show 1+(j-1)=j by omega];exact d⟩ (by omega),sh]
theorem tM(o:AQW l):∀ (m i n:Nat) (t:CF),l.length-i=m->i<=l.length->De b t (l.take i)->m<n ->
  BA MC n ((b:Int),(0:Int),((2 ^ b:Nat):Int),l,(b:Int),t.1,t.2,(i:Int),())=some (.inl ((0:Int),(b:Int),((l.drop i).foldl (D7 b) t).1,((l.drop i).foldl (D7 b) t).2,())):=by
 have u:4294967296<many:=by simp only[many];omega
 have p:2 ^ b<=2 ^ 10:=AZw (by omega) hb;intro m;induction m with
  |zero=>
   intro i n t q hi d r;obtain⟨n,rfl⟩:∃ k,n=k+1:=⟨n-1,by omega⟩
   rw[BA,MC,A9,A4,AYz (by omega),Ab2 (by omega)];rfl
  |succ m s=>
   intro i n t q hi d r;obtain⟨n,rfl⟩:∃ k,n=k+1:=⟨n-1,by omega⟩
   have a:i<l.length:=by omega
   have j:(l.take i).length=i:=by rw[AZU];omega
   have f:=Si b t.1 t.2 (l.getD i 0);have c:=ACy h1 hb hu hl a;have g:=RR hb d c (by omega);rw[<- DX a]at g;rw[BA,MC,A9,A4,AY0 a];simp only[Cd (0:Int) a,Ek];rw[AAN b _ h1 hb (o _ (uF a))];simp only[BO];rw[ml h1 hb hu hl (l.getD i 0) t (l.take i) d c i (2 ^ b) (H b (l.getD i 0)) many (AJ0 b _ hb) (Ys hb d.lf (by rw[d.cnt];omega) _) (by omega)];have h:(H b (l.getD i 0)+way (DP t.1 t.2 (l.getD i 0)) (2 ^ b) (H b (l.getD i 0)) (2 ^ b)) % 2 ^ b=spot b t.1 t.2 (l.getD i 0):=rfl;simp only[h];rw[Cd (0:Int) a];simp only[];rw[Cd (0:Int) (by rw[d.lc];exact f)];simp only[];rw[Cd false (by rw[d.lf];exact f)];simp only[FX,Ek];rw[A6 (by omega)];have e:=s (i+1) n (D7 b t (l.getD i 0)) (by omega) (by omega) g (by omega);have hd:l.drop i=l.getD i 0::l.drop (i+1):=by rw[AZh a];simp[a]
   rw[hd,AZm];exact e
end
def HE(b:Int)(xs:List Int):Int×List Int×List Bool×Int×Unit:=
 if 1<=b/\b<=10 then
  if 2 ^ b.toNat*3/4<(ups xs).length then(0,[],[],2,())else(b,(tab b.toNat (ups xs)).1,(tab b.toNat (ups xs)).2,0,())
 else(0,[],[],1,())
theorem AU2(b:Nat)(a:b<=10):shl? .i64 (1:Int) (IntKind.wrap .u64 (b:Int))=some ((2 ^ b:Nat):Int):=by
 have d:=AaI b;have c:2 ^ b<=2 ^ 10:=AZw (by omega) a;have e:((2:Int) ^ b)=((2 ^ b:Nat):Int):=by simp
 rw[u64_in (by omega),OI,eM,AY7 (by omega),AZX,show min b (IntKind.bits .i64)=b from AZ9 (by show b<=64;omega),Int.one_mul,e,XK (by omega)]
theorem qe(n s:Nat)(h:s<=64):shr? .i64 (n:Int) (s:Int)=some ((n/2 ^ s:Nat):Int):=by rw[RJ,lY,AY7 (by omega),AZX,show min s (IntKind.bits .i64)=s from AZ9 h,Abe _ (Int.pow_nonneg (by omega))];rfl
theorem ADZ{n:Int}(h:0<=n/\n<=4294967296):B4 n=true:=(Hb n).2 h
theorem L3{b:Nat}(a:1<=b)(c:b<=10):2 ^ b/2 ^ 1+2 ^ b/2 ^ 2=2 ^ b*3/4/\2 ^ b<=1024/\2 ^ b*3/4<2 ^ b:=by
 have:∀ b:Fin 11,1<=b.val->2 ^ b.val/2 ^ 1+2 ^ b.val/2 ^ 2=2 ^ b.val*3/4/\2 ^ b.val<=1024/\2 ^ b.val*3/4<2 ^ b.val:=by decide
 exact this ⟨b,by omega⟩ a
theorem bc(b:Int)(xs:List Int)(i:xs.length<2147483648):make (b,xs,())=some (HE b xs):=by
 have j:4294967296<many:=by simp only[many];omega
 rw[ADD,zq,Se,HE];by_cases h:1<=b/\b<=10;obtain⟨b,rfl⟩:∃ n:Nat,b=(n:Int):=⟨b.toNat,by omega⟩
 obtain⟨c,k,l⟩:=L3 (b:=b) (by omega) (by omega);rw[AY0 h,AZA h];have d:shr? .i64 ((2 ^ b:Nat):Int) (1:Int)=some ((2 ^ b/2 ^ 1:Nat):Int):=qe (2 ^ b) 1 (by omega);have f:shr? .i64 ((2 ^ b:Nat):Int) (2:Int)=some ((2 ^ b/2 ^ 2:Nat):Int):=qe (2 ^ b) 2 (by omega);simp only[AY4,AU2 b (by omega),ab xs (by omega),d,f,AZX];rw[wrap_add (by omega),c,A9,A4];by_cases a:2 ^ b*3/4<(ups xs).length;rw[AY0 a,AZA a];rw[AYz a,AY7 a];simp only[ADZ (show(0:Int)<=((2 ^ b:Nat):Int)/\((2 ^ b:Nat):Int)<=4294967296 by omega),FJ,AY8,AZD,Aaj,EA,C2,BO];have e:=AHQ (b:=b) (by omega) (by omega) (N_ xs) (by omega) (ups xs).length 0 many (noT b) (by omega) (by omega) (WL b) (by omega);have g:BA TA many ((0:Int),(b:Int),List.replicate (2 ^ b) (0:Int),List.replicate (2 ^ b) false,ups xs,((ups xs).length:Int),(0:Int),())=_:=e;simp only[g];rfl;rw[AYz h,AY7 h];rfl
theorem zr(b:Int)(xs:List Int)(d:xs.length<2147483648)(f:AQW xs):mo (b,xs,())=some (HE b xs):=by
 have j:4294967296<many:=by simp only[many];omega
 rw[jD,bf,BG,BG,HE];by_cases h:1<=b/\b<=10;obtain⟨b,rfl⟩:∃ n:Nat,b=(n:Int):=⟨b.toNat,by omega⟩
 obtain⟨k,l,m⟩:=L3 (b:=b) (by omega) (by omega);rw[AYz (by omega),AYz (by omega),AZA h];have g:w64 (((2 ^ b:Nat):Int)*3)=((2 ^ b*3:Nat):Int):=fT (by omega);simp only[AU2 b (by omega),lq xs d,g,AZX,rL (show 2 ^ b*3<9223372036854775808 by omega),A9,A4];by_cases a:2 ^ b*3/4<(ups xs).length;rw[AY0 a,AZA a];rw[AYz a,AY7 a];simp only[ADZ (show(0:Int)<=((2 ^ b:Nat):Int)/\((2 ^ b:Nat):Int)<=4294967296 by omega),FJ,AY8,AZD,Aaj,EA,C2,BO];have e:=tM (b:=b) (by omega) (by omega) (N_ xs) (by omega) f.ups (ups xs).length 0 many (noT b) (by omega) (by omega) (WL b) (by omega);have i:BA MC many ((b:Int),(0:Int),((2 ^ b:Nat):Int),ups xs,(b:Int),List.replicate (2 ^ b) (0:Int),List.replicate (2 ^ b) false,(0:Int),())=_:=e;simp only[i];rfl;rw[AY7 h];by_cases c:b<1;rw[AY0 c];rw[AYz c,AY0 (by omega)]
theorem VZ{σ ρ:Type}{step:σ->Option (σ⊕ρ)}(st:Nat->σ)(N:Nat)(P:Nat->Bool)(b:Nat->ρ)(c:ρ)(n:N<4294967296)
  (h:∀ i,i<N->step (st i)=if P i then some (.inr (b i))else some (.inl (st (i+1)))) (f:step (st N)=some (.inr c)) :
  (∃ k,k<N/\P k=true/\(∀ j,j<k->P j=false)/\A_ step many (st 0)=some (b k))\/((∀ j,j<N->P j=false)/\A_ step many (st 0)=some c):=by
 have o:4294967296<many:=by simp only[many];omega
 rw[BO];rcases iI st N P b c h f N 0 many rfl (by omega) (by omega)with⟨k,e,d,g,l,m⟩|⟨e,d⟩
 exact .inl ⟨k,d,g,fun j a=>l j (by omega) a,m⟩;exact .inr ⟨fun j a=>e j (by omega) a,d⟩
theorem AYT{σ ρ α:Type}{step:σ->Option (σ⊕ρ)}(st:Nat->α->σ)(N:Nat)(g:Nat->α->α)(r:α->ρ)(I:Nat->α->Prop)(u:N<4294967296)
  (h:∀ i a,i<N->I i a->step (st i a)=some (.inl (st (i+1) (g i a)))/\I (i+1) (g i a)) (d:∀ a,I N a->step (st N a)=some (.inr (r a))) (a:α) (f:I 0 a) :
  ∃ z,I N z/\A_ step many (st 0 a)=some (r z)/\z=(List.range N).foldl (fun a i=>g i a) a:=by
 have v:4294967296<many:=by simp only[many];omega
 rw[BO];suffices q:∀ (m i n:Nat) (a:α),N-i=m->i<=N->m<n->I i a->∃ z,I N z/\BA step n (st i a)=some (r z)/\z=(List.range' i (N-i)).foldl (fun a i=>g i a) a by have:=q N 0 many a (by omega) (by omega) (by omega) f;simpa [Aax]using this
 intro m;induction m with
  |zero=>
   intro i n a j hi l b;obtain⟨n,rfl⟩:∃ k,n=k+1:=⟨n-1,by omega⟩
   have e:i=N:=by omega
   subst e;exact⟨a,b,by rw[BA,d a b],by simp⟩
  |succ m o=>
   intro i n a j hi l b;obtain⟨n,rfl⟩:∃ k,n=k+1:=⟨n-1,by omega⟩
   obtain⟨e,c⟩:=h i a (by omega) b;obtain⟨z,p,s,t⟩:=o (i+1) n (g i a) (by omega) (by omega) (by omega) c;refine⟨z,p,by rw[BA,e];exact s,?_⟩;rw[show N-i=N-(i+1)+1 by omega,Aai,AZm];exact t
theorem AAe(xs ys:List Int)(c:xs.length<4294967296):n6 (xs,ys,())=some (decide (xs=ys),()):=by
 rw[jc,cb,O0];by_cases a:xs.length=ys.length;simp only[a,AZD,AY4,A9]
 rcases VZ (step:=Jr) (fun i=>(xs,ys,(ys.length:Int),(i:Int),())) ys.length (fun i => !(xs.getD i 0==ys.getD i 0)) (fun _=>.inl (false,())) (.inr (.inl ())) (by omega)
  (fun i hi=>by
   rw[Jr]
   simp (disch:=omega) only[A4,hi,AZD,Cd (0:Int),B1,A6]
   cases xs.getD i 0==ys.getD i 0<;>simp) (by rw[Jr];simp only[A4,AbA,AZQ])with⟨k,hk,hP,_,e⟩|⟨hP,e⟩
 have b:A_ Jr many (xs,ys,(ys.length:Int),(0:Int),())=_:=e;simp only[b];rw[AYz (K6 0 (j:=k) (by simpa using hP))];have b:A_ Jr many (xs,ys,(ys.length:Int),(0:Int),())=_:=e;simp only[b];rw[AY0 (Gw 0 a fun j d=>by simpa using hP j (by omega))];simp only[a,AZQ,AZO];rw[AYz fun e=>a (by rw[e])]
theorem AAf(xs ys:List Bool)(c:xs.length<4294967296):n7 (xs,ys,())=some (decide (xs=ys),()):=by
 rw[jd,cf,O0];by_cases a:xs.length=ys.length;simp only[a,AZD,AY4,A9]
 rcases VZ (step:=Js) (fun i=>(xs,ys,(ys.length:Int),(i:Int),())) ys.length (fun i => !(xs.getD i false==ys.getD i false)) (fun _=>.inl (false,())) (.inr (.inl ())) (by omega)
  (fun i hi=>by
   rw[Js]
   simp (disch:=omega) only[A4,hi,AZD,Cd false,B1,A6]
   cases xs.getD i false==ys.getD i false<;>simp) (by rw[Js];simp only[A4,AbA,AZQ])with⟨k,hk,hP,_,e⟩|⟨hP,e⟩
 have b:A_ Js many (xs,ys,(ys.length:Int),(0:Int),())=_:=e;simp only[b];rw[AYz (K6 false (j:=k) (by simpa using hP))];have b:A_ Js many (xs,ys,(ys.length:Int),(0:Int),())=_:=e;simp only[b];rw[AY0 (Gw false a fun j d=>by simpa using hP j (by omega))];simp only[a,AZQ,AZO];rw[AYz fun e=>a (by rw[e])]
theorem XL(xs ys:List Int)(c:xs.length<4294967296):SK (xs,ys,())=some (decide (xs=ys),()):=by
 rw[Zh,VM,O0];by_cases a:xs.length=ys.length;simp only[a,AZD,AY4]
 rcases VZ (step:=HG) (fun i=>(xs,ys,(i:Int),())) xs.length (fun i => !(xs.getD i 0==ys.getD i 0)) (fun _=>.inl (false,())) (.inr (.inl ())) (by omega)
  (fun i hi=>by
   rw[HG]
   simp (disch:=omega) only[A9,A4,hi,AZD,Cd (0:Int),B1,A6]
   cases xs.getD i 0==ys.getD i 0<;>simp) (by rw[HG];simp only[A9,A4,AbA,AZQ])with⟨k,hk,hP,_,e⟩|⟨hP,e⟩
 have b:A_ HG many (xs,ys,(0:Int),())=_:=e;simp only[b];rw[AYz (K6 0 (j:=k) (by simpa using hP))];have b:A_ HG many (xs,ys,(0:Int),())=_:=e;simp only[b];rw[AY0 (Gw 0 a fun j d=>by simpa using hP j (by omega))];simp only[a,AZQ,AZO];rw[AYz fun e=>a (by rw[e])]
theorem xW(a b:Int×List Int×List Bool×Unit)(p:a.2.1.length<4294967296)(r:a.2.2.1.length<4294967296):lh (a,b,())=some (decide (a=b),()):=by
 obtain⟨c,h,d,_⟩:=a;obtain⟨q,l,f,_⟩:=b;rw[iK,aP,O0,B1];simp only at p r |-;by_cases n:c=q;subst n;simp only[BEq.rfl,AY4];by_cases m:d.length=f.length;simp only[m,AZD,AY4]
 rcases VZ (step:=Je) (fun i=>(c,h,d,c,l,f,(i:Int),())) d.length (fun i => !(d.getD i false==f.getD i false)) (fun _=>.inl (false,())) (.inr (.inl (c,h,d,c,l,f,()))) (by omega)
  (fun i hi=>by
   rw[Je]
   simp (disch:=omega) only[A9,A4,hi,AZD,Cd false,B1,A6]
   cases d.getD i false==f.getD i false<;>simp) (by rw[Je];simp only[A9,A4,AbA,AZQ])with⟨k,hk,hP,_,e⟩|⟨hP,e⟩
 have o:A_ Je many (c,h,d,c,l,f,(0:Int),())=_:=e;simp only[o];rw[AYz fun g=>K6 (xs:=d) (ys:=f) false (j:=k) (by simpa using hP) (by injection g with _ g;injection g with _ g;injection g)];have o:A_ Je many (c,h,d,c,l,f,(0:Int),())=_:=e;have s:=Gw false m fun j t=>by simpa using hP j (by omega)
 subst s;simp only[o,XL h l p];congr 2;by_cases g:h=l<;>simp[g];simp only[m,AZQ,AZO];rw[AYz fun e=>m (by injection e with _ e;injection e with _ e;injection e with e _;rw[e])];rw[show(c==q)=false by simpa using n];simp only[AZO];rw[AYz fun e=>n (by injection e)]
theorem Q4(xs:List Int)(x:Int)(c:xs.length<4294967296):Mf (xs,x,())=some (decide (x∈xs),()):=by
 rw[T4,PD,jP,cF];simp only[A9]
 rcases VZ (step:=Jo) (fun i=>(xs,x,(xs.length:Int),(i:Int),())) xs.length (fun i=>x==xs.getD i 0) (fun i=>.inl ((i:Int),())) (.inr (.inl ())) c
   (fun i hi=>by
    rw[Jo]
    simp (disch:=omega) only[A4,hi,AZD,Cd (0:Int),B1,A6]
    cases x==xs.getD i 0<;>simp) (by rw[Jo];simp only[A4,AbA,AZQ])with⟨k,hk,hP,_,e⟩|⟨hP,e⟩
 have a:A_ Jo many (xs,x,(xs.length:Int),(0:Int),())=_:=e;simp only[a,BQ];rw[AY0 (by omega),AY0 (by rw[eq_of_beq hP];exact uF hk)];have a:A_ Jo many (xs,x,(xs.length:Int),(0:Int),())=_:=e;simp only[a,BQ];rw[AYz (by omega),AYz fun d=>by obtain⟨j,b,f⟩:=AZv d;have:=hP j b;simp[b,f]at this]
def Br(xs ys:List Int):List Int:=xs.filter fun x => !decide (x∈ys)
def kl(c:List Int)(f:List Bool):List Int:=(List.range f.length).foldl (fun a i=>if f.getD i false&&decide (i<c.length)then a++[c.getD i 0]else a) []
theorem z5(c:List Int)(f:List Bool):(kl c f).length<=f.length:=by
 suffices h:∀ N,((List.range N).foldl (fun a i=>if f.getD i false&&decide (i<c.length)then a++[c.getD i 0]else a) []).length<=N from h _
 intro N;induction N with
  |zero=>simp
  |succ N b=>rw[AZo,Aac,AZm,List.foldl_nil];split;rw[AZF,AaL];omega;omega
theorem AWW(c:List Int)(f:List Bool)(x:Int):x∈kl c f↔∃ i,i<f.length/\i<c.length/\f.getD i false=true/\x=c.getD i 0:=by
 suffices h:∀ N,x∈(List.range N).foldl (fun a i=>if f.getD i false&&decide (i<c.length)then a++[c.getD i 0]else a) []↔∃ i,i<N/\i<c.length/\f.getD i false=true/\x=c.getD i 0 from h _
 intro N;induction N with
  |zero=>simp
  |succ N k=>rw[AZo,Aac,AZm,List.foldl_nil];split;rename_i h;rw[AY3,AY2]at h;rw[AY5,k,AZW];constructor;rintro (⟨i,d,b⟩|d);exact⟨i,by omega,b⟩;exact⟨N,by omega,h.2,h.1,d⟩;rintro⟨i,d,b,g,j⟩;by_cases e:i=N;subst e;exact .inr j;exact .inl ⟨i,by omega,b,g,j⟩;rename_i h;rw[k];constructor;rintro⟨i,d,b⟩;exact⟨i,by omega,b⟩;rintro⟨i,d,b,g,j⟩;by_cases e:i=N;subst e;rw[AY3,AY2]at h;exact absurd ⟨g,b⟩ h;exact⟨i,by omega,b,g,j⟩
theorem bw(b:Int)(c:List Int)(f:List Bool)(m:f.length<2147483648):keys ((b,(c,(f,()))),())=some (ups (kl c f),()):=by
 rw[keys_eq,z6];simp only[A9]
 obtain⟨z,_,e,h⟩:=AYT (step:=TJ) (fun i a=>(b,c,f,a,f,(f.length:Int),(i:Int),())) f.length (fun i a=>if f.getD i false&&decide (i<c.length)then a++[c.getD i 0]else a) (fun a=>.inl (a,())) (fun i a=>a.length<=i) (by omega)
  (fun i a hi j=>by
   rw[TJ]
   simp (disch:=omega) only[A9,A4,hi,AZD,Cd false,A6]
   cases k:f.getD i false
   ·simp;omega
   ·by_cases g:i<c.length
    ·simp (disch:=omega) only[g,AZD,Cd (0:Int),CN,AZC,AZP]
     simp[Bi];omega
    ·simp[g];omega) (fun a j=>by rw[TJ];simp only[A4,AbA,AZQ]) [] (by simp)
 have l:A_ TJ many (b,c,f,[],f,(f.length:Int),(0:Int),())=_:=e;simp only[l];have d:z=kl c f:=h;rw[d,ab _ (by have:=z5 c f;omega)]
theorem AIx(o ys:List Int)(t:o.length<4294967296)(p:ys.length<4294967296):∀ (k j w:Nat) (a:List Int) (n:Nat),j+k=o.length->a.length=o.length->w=(Br (o.take j) ys).length->a.take w=Br (o.take j) ys->w<j->a.drop j=o.drop j->k<n ->
  ∃ i:List Int,BA FP n (a,ys,(w:Int),(j:Int),())=some (.inl (i,ys,(((Br o ys).length:Nat):Int),()))/\i.length=o.length/\i.take (Br o ys).length=Br o ys:=by
 intro k;induction k with
  |zero=>
   intro j w a n q g c d l hd r;obtain⟨n,rfl⟩:∃ k,n=k+1:=⟨n-1,by omega⟩
   have e:j=o.length:=by omega
   subst e;rw[AZT]at c d;rw[BA,FP,A9,A4,AYz (by omega)];exact⟨a,by rw[c],g,by rw[<- c];exact d⟩
  |succ k m=>
   intro j w a n q g c d l hd r;obtain⟨n,rfl⟩:∃ k,n=k+1:=⟨n-1,by omega⟩
   have s:a.getD j 0=o.getD j 0:=JJ hd (AY8 _);have f:a.drop (j+1)=o.drop (j+1):=by have:=AaB (List.drop 1) hd;simpa only[AaO]using this
   have b:Br (o.take (j+1)) ys=Br (o.take j) ys++if o.getD j 0∈ys then []else [o.getD j 0]:=by rw[DX (by omega),Br,AZ5];generalize o.getD j 0=v;by_cases h:v∈ys<;>simp[Br,h]
   rw[BA,FP,A9,A4,AY0 (by omega)];simp (disch:=omega) only[Cd (0:Int),Ek,FX,s,Q4 ys _ p,A6];by_cases h:o.getD j 0∈ys;rw[AY0 h];rw[AZA h,AZ8]at b;exact m (j+1) w a n (by omega) g (by rw[b];exact c) (by rw[b];exact d) (by omega) f (by omega);rw[AYz h];rw[AY7 h]at b;refine m (j+1) (w+1) (a.set w (o.getD j 0)) n (by omega) (by simp[g]) (by rw[b];simp[c]) ?_ (by omega) ?_ (by omega);rw[b,<- d,AZf (by simp;omega)];simp[Abg];rw[Abh (by omega)];exact f
theorem SQ{o ys:List Int}(h:∀ j,j<o.length->decide (o.getD j 0∈ys)=false):Br o ys=o:=by rw[Br,AZ7];intro x b;obtain⟨j,a,e⟩:=AZv b;have:=h j a;simp only[AZK,AZE a,AZ2,e]at this;simp only[this,AZO]
theorem APU(o ys:List Int)(f:o.length<4294967296)(g:ys.length<4294967296):
  ∃ a:List Int,Hz (o,ys,())=some (a,ys,(((Br o ys).length:Nat):Int),())/\a.take (Br o ys).length=Br o ys:=by
 have t:4294967296<many:=by simp only[many];omega
 rw[MZ,Iz,MP,Iy];simp only[A9]
 rcases VZ (step:=DT) (fun i=>(o,ys,(o.length:Int),(i:Int),())) o.length (fun i=>decide (o.getD i 0∈ys)) (fun i=>.inl (o,ys,(i:Int),())) (.inr (.inl (o,ys,()))) f
   (fun i hi=>by
    rw[DT]
    simp (disch:=omega) only[A4,hi,AZD,Cd (0:Int),Ek,Q4 ys _ g,A6]
    cases decide (o.getD i 0∈ys)<;>rfl) (by rw[DT];simp only[A4,AbA,AZQ])with⟨k,hk,hP,hF,e⟩|⟨hP,e⟩
 have d:A_ DT many (o,ys,(o.length:Int),(0:Int),())=_:=e;have c:Br (o.take k) ys=o.take k:=SQ fun j m=>by rw[AZU]at m;have:=hF j (by omega);rw[show(o.take k).getD j 0=o.getD j 0 by simp[AZK,List.getElem?_take_of_lt (show j<k by omega)]];exact this
 have h:Br (o.take (k+1)) ys=o.take k:=by
  rw[DX hk,Br,AZ5];have:(List.filter (fun x => !decide (x∈ys)) [o.getD k 0])=[]:=by generalize o.getD k 0=v at *;simp[hP]
  rw[this,AZ8];exact c
 obtain⟨b,n,u,p⟩:=AIx o ys f g (o.length-(k+1)) (k+1) k o many (by omega) rfl (by rw[h,AZU];omega) (by rw[h]) (by omega) rfl (by omega);have q:(Br o ys).length<=o.length:=AZy _ _;have r:(Bp (Br o ys).length (b.length-(Br o ys).length) 0 b).length=b.length:=by simp[Bp];omega
 have s:Ci (Bp (Br o ys).length (b.length-(Br o ys).length) 0 b) (0:Int) (((Br o ys).length:Nat):Int)=some _:=Gh (l:=0) (by omega) (by omega);simp only[d,B1];rw[show((k:Int) == -1)=false from beq_false_of_ne (by omega),A6 (by omega)];simp only[BO,n];rw[Gh (by omega) (by omega)];simp only[AZT,AZ4,EA,s];refine⟨Bp (Br o ys).length (b.length-(Br o ys).length) 0 b,?_,?_⟩;simp only[AZU,Nat.sub_zero];rw[AZ9 (by omega)];rw[Bp,Aa0 (by simp;omega),Aaq,Nat.min_self];exact p;have d:A_ DT many (o,ys,(o.length:Int),(0:Int),())=_:=e;have c:=SQ hP;simp only[d,B1];exact⟨o,by rw[c];rfl,by rw[c,AZT]⟩
theorem AIn(o ys:List Int)(b:o.length<4294967296)(c:ys.length<4294967296):
  ∃ a:List Int,ADh (o,ys,())=some (a,ys,(((Br o ys).length:Nat):Int),())/\a.take (Br o ys).length=Br o ys:=by obtain⟨a,e,d⟩:=APU o ys b c;rw[uc,oB];simp only[e,EA];exact⟨a,rfl,d⟩
theorem AQm(xs:List Int):ups (ups xs)=ups xs:=Pk (N_ _) (N_ _) fun z=>by rw[S_]
theorem iq(b:Int)(xs:List Int):HE b (ups xs)=HE b xs:=by rw[HE,HE,AQm]
theorem S7{b:Nat}{xs:List Int}(a:1<=b)(c:b<=10)(d:(ups xs).length<=2 ^ b*3/4):HE (b:Int) xs=((b:Int),(tab b (ups xs)).1,(tab b (ups xs)).2,0,()):=by rw[HE,AZA (by omega),AZX,AY7 (by omega)]
theorem Xj(b:Int)(xs:List Int):(∃ e,e≠0/\HE b xs=(0,[],[],e,())) \/
  ∃ n:Nat,b=(n:Int)/\1<=n/\n<=10/\(ups xs).length<=2 ^ n*3/4/\HE b xs=(b,(tab n (ups xs)).1,(tab n (ups xs)).2,0,())/\De n (tab n (ups xs)) (ups xs):=by
 by_cases h:1<=b/\b<=10;obtain⟨n,rfl⟩:∃ n:Nat,b=(n:Int):=⟨b.toNat,by omega⟩
 obtain⟨_,_,c⟩:=L3 (b:=n) (by omega) (by omega);by_cases a:2 ^ n*3/4<(ups xs).length;exact .inl ⟨2,by decide,by rw[HE,AZA h,AZX,AZA a]⟩;exact .inr ⟨n,rfl,by omega,by omega,by omega,S7 (by omega) (by omega) (by omega),hJ (by omega) (N_ xs) (by omega)⟩;exact .inl ⟨1,by decide,by rw[HE,AY7 h]⟩
def KC(b:Int)(c:List Int)(f:List Bool):Bool:=decide (HE b (kl c f)=(b,c,f,0,()))
theorem XV{b:Int}{c:List Int}{f:List Bool}(h:KC b c f=true):∃ n:Nat,b=(n:Int)/\1<=n/\n<=10/\(ups (kl c f)).length<=2 ^ n*3/4/\tab n (ups (kl c f))=(c,f)/\De n (c,f) (ups (kl c f)):=by
 rw[KC,AY2]at h;rcases Xj b (kl c f)with⟨e,d,a⟩|⟨n,rfl,a,g,i,j,k⟩
 rw[a]at h;exact absurd (by injection h with _ h;injection h with _ h;injection h with _ h;injection h) d;rw[j]at h;have e:tab n (ups (kl c f))=(c,f):=by injection h with _ h;injection h with a1 h;injection h with a2 h;exact Prod.ext a1 a2
 exact⟨n,rfl,a,g,i,e,e▸k⟩
theorem ARF{n:Nat}{t:CF}{a:List Int}(h:De n t a)(b:n<=10):t.1.length<=1024/\t.2.length<=1024:=by have c:2 ^ n<=2 ^ 10:=AZw (by omega) b;rw[h.lc,h.lf];omega
theorem iS(b:Int)(c:List Int)(f:List Bool)(j:f.length<2147483648):right ((b,(c,(f,()))),())=some (KC b c f,()):=by
 have p:=Ym (kl c f);have k:=z5 c f;rw[rF,lz];simp only[bw b c f j];rw[bc b _ (by omega),iq,KC];rcases Xj b (kl c f)with⟨e,g,i⟩|⟨n,rfl,i,l,q,m,o⟩
 rw[i];simp only[B1];rw[show(e==0)=false by simpa using g,AYz fun h=>g (by injection h with _ h;injection h with _ h;injection h with _ h;injection h)];obtain⟨r,s⟩:=ARF o l;rw[m];simp only[B1,BEq.rfl];rw[AAe _ _ (by omega)];by_cases a:(tab n (ups (kl c f))).1=c;rw[AY0 a];simp only[];rw[AAf _ _ (by omega)];simp only[];congr 2;by_cases d:(tab n (ups (kl c f))).2=f;rw[AY0 d,AY0 (by rw[a,d])];rw[AYz d,AYz fun h=>d (by injection h with _ h;injection h with _ h;injection h)];rw[AYz a,AYz fun h=>a (by injection h with _ h;injection h)]
def ZM(b:Int)(c:List Int)(f:List Bool)(k:Int):Int×Int×Bool×Unit:=
 if KC b c f then
  if f.getD (spot b.toNat c f k) false then(((spot b.toNat c f k:Nat):Int),((1+far b.toNat c f k:Nat):Int),true,())else(0,((1+far b.toNat c f k:Nat):Int),false,())
 else(0,0,false,())
theorem XU{n:Nat}{c:List Int}{f:List Bool}{a:List Int}(d:1<=n)(b:n<=10)(h:De n (c,f) a)(e:a.length<=2 ^ n*3/4)(k:Int):∃ j,j<2 ^ n/\DP c f k ((H n k+j) % 2 ^ n)=true:=by obtain⟨_,_,g⟩:=L3 d b;have i:f.count true=a.length:=h.cnt;exact Ys (c:=c) (f:=f) b h.lf (by omega) k
theorem AOy(b:Int)(c:List Int)(f:List Bool)(k:Int)(g:f.length<2147483648):find ((b,(c,(f,()))),k,())=some (ZM b c f k):=by rw[find_eq,AAd];simp only[iS b c f g];rw[ZM];by_cases h:KC b c f=true;obtain⟨n,rfl,d,e,i,l,a⟩:=XV h;have j:=Si n c f k;rw[h];simp only[AY4,iW k c f n d e a.lc a.lf (XU d e a i k),AZa,AZX];rw[Cd false (by have:=a.lf;simp only at this;omega)];cases f.getD (spot n c f k) false<;>rfl;rw[Bool.not_eq_true]at h;rw[h];rfl
def ZP(b:Int)(c:List Int)(f:List Bool)(xs:List Int):Int×List Int×List Bool×Int×Unit:=
 if KC b c f then HE b (Br (ups (kl c f)) xs)else(b,c,f,1,())
section
variable (b:Int) (c:List Int) (f:List Bool) (xs:List Int) (hf:f.length<1073741824) (hx:xs.length<1073741824)
include hf hx
theorem AUG(h:KC b c f=true):∃ n:Nat,b=(n:Int)/\1<=n/\n<=10/\HE b (Br (ups (kl c f)) xs)=(b,(tab n (ups (Br (ups (kl c f)) xs))).1,(tab n (ups (Br (ups (kl c f)) xs))).2,0,())/\(ups (Br (ups (kl c f)) xs)).length<=2 ^ n*3/4:=by obtain⟨n,rfl,a,d,e,g,i⟩:=XV h;have j:=Ym (Br (ups (kl c f)) xs);have k:(Br (ups (kl c f)) xs).length<=(ups (kl c f)).length:=AZy _ _;exact⟨n,rfl,a,d,S7 a d (by omega),by omega⟩
theorem APL:drop ((b,(c,(f,()))),xs,())=some (ZP b c f xs):=by have j:=Ym (kl c f);have d:=z5 c f;rw[drop_eq,AAt];simp only[iS b c f (by omega)];rw[ZP];by_cases h:KC b c f=true;rw[h];simp only[AY4,bw b c f (by omega),AZa];obtain⟨a,e,g⟩:=AIn (ups (kl c f)) xs (by omega) (by omega);simp only[e,EA,CT,g];rw[bc b _ (by have:(Br (ups (kl c f)) xs).length<=(ups (kl c f)).length:=AZy _ _;omega)];obtain⟨n,_,_,_,i,_⟩:=AUG b c f xs hf hx h;rw[i];simp only[B1,BEq.rfl,AY4];rw[Bool.not_eq_true]at h;rw[h];rfl
end
theorem zd{n:Nat}{t:CF}{b:List Int}(h:De n t b)(x:Int):x∈kl t.1 t.2↔x∈b:=by rw[AWW];constructor;rintro⟨i,_,_,c,rfl⟩;exact h.sub i c;intro d;obtain⟨e,f⟩:=h.at' x d;have a:=Si n t.1 t.2 x;exact⟨spot n t.1 t.2 x,by rw[h.lf];exact a,by rw[h.lc];exact a,e,f.symm⟩
theorem AVU{n:Nat}{t:CF}{a:List Int}(h:De n t a)(b:Up a):ups (kl t.1 t.2)=a:=
 Pk (N_ _) b fun z=>by rw[S_,zd h]
theorem wV{a:List Int}(b:Up a):ups a=a:=Pk (N_ _) b fun z=>S_ _ _
structure Tb(n:Nat)(c:List Int)(f:List Bool)(K:List Int):Prop where
 n1:1<=n
 n10:n<=10
 up:Up K
 few:K.length<=2 ^ n*3/4
 eq:tab n K=(c,f)
section
variable {n:Nat} {c:List Int} {f:List Bool} {K:List Int}
theorem Tb.holds(h:Tb n c f K):De n (c,f) K:=by obtain⟨_,_,a⟩:=L3 h.n1 h.n10;have:=hJ h.n10 h.up (by have:=h.few;omega);rwa [h.eq]at this
theorem Tb.keys(h:Tb n c f K):ups (kl c f)=K:=AVU h.holds h.up
theorem Tb.mk'(b:1<=n)(a:n<=10)(d:Up K)(e:K.length<=2 ^ n*3/4):Tb n (tab n K).1 (tab n K).2 K:=⟨b,a,d,e,rfl⟩
theorem Tb.out(h:Tb n c f K):HE (n:Int) K=((n:Int),c,f,0,()):=by have a:=wV h.up;rw[S7 h.n1 h.n10 (by rw[a];exact h.few),a,h.eq]
theorem Tb.right(h:Tb n c f K):KC (n:Int) c f=true:=by rw[KC,AY2,<- iq,h.keys,h.out]
theorem Tb.lc(h:Tb n c f K):c.length=2 ^ n:=h.holds.lc
theorem Tb.lf(h:Tb n c f K):f.length=2 ^ n:=h.holds.lf
theorem Tb.small(h:Tb n c f K):2 ^ n<=1024:=(L3 h.n1 h.n10).2.1
theorem Tb.stops(h:Tb n c f K)(k:Int):far n c f k<2 ^ n/\DP c f k (spot n c f k)=true/\∀ j,j<far n c f k->DP c f k ((H n k+j) % 2 ^ n)=false:=
 Pr h.n10 (XU h.n1 h.n10 h.holds h.few k)
theorem Tb.full(h:Tb n c f K)(k:Int):f.getD (spot n c f k) false=decide (k∈K):=by by_cases a:k∈K;rw[AY0 a];exact(h.holds.at' k a).1;rw[AYz a];have b:=(h.stops k).2.1;rw[h.holds.empty a]at b;simpa using b
theorem Tb.find(h:Tb n c f K)(k:Int):ZM (n:Int) c f k=if k∈K then(((spot n c f k:Nat):Int),((1+far n c f k:Nat):Int),true,())else(0,((1+far n c f k:Nat):Int),false,()):=by rw[ZM,h.right,AZX,h.full];simp
theorem wW(a:Up K)(xs:List Int):Up (Br K xs):=a.filter _
theorem Tb.drop(h:Tb n c f K)(xs:List Int):∃ c' b,Tb n c' b (Br K xs)/\ZP (n:Int) c f xs=((n:Int),c',b,0,()):=by have e:(Br K xs).length<=K.length:=AZy _ _;have a:=wW h.up xs;have d:=Tb.mk' (n:=n) h.n1 h.n10 a (by have:=h.few;omega);refine⟨_,_,d,?_⟩;rw[ZP,h.right,h.keys,AZA rfl,S7 h.n1 h.n10 (by rw[wV a];exact d.few),wV a]
end
def ATN(x:Nat):List Nat->List Nat
 |[]=>[x]
 |y::ys=>match Nat.ble x y with
  |true=>x::y::ys
  |false=>y::ATN x ys
def ANq:List Nat->List Nat
 |[]=>[]
 |x::xs=>ATN x (ANq xs)
theorem jO(x:Nat):∀ l,(ATN x l).Perm (x::l)
 |[]=>Abt _
 |y::ys=>by rw[ATN];split;exact Abt _;exact((jO x ys).cons y).trans (List.Perm.swap x y ys)
theorem cC:∀ l,(ANq l).Perm l
 |[]=>Abt _
 |x::xs=>(jO x _).trans ((cC xs).cons x)
def AUa(n:Nat)(v:Option (List Int×Int×Int×Unit)):Bool:=
 match v with
 |some (U,k,e,_)=>decide (e=0)&&(U.all (fun x=>decide (0<=x))&&(decide (ANq (U.map Int.toNat)=List.range n)&&(decide (1<=k\/n=0/\0<=k)&&decide (k<=40000))))
 |none=>false
theorem AUZ{n:Nat}{v:Option (List Int×Int×Int×Unit)}(h:AUa n v=true):∃ (U:List Nat) (k:Nat),U.Perm (List.range n)/\(1<=n->1<=k)/\k<=40000/\v=some (nI U,(k:Int),0,()):=by
 unfold AUa at h;split at h;rename_i U k e u;simp only[AY3,AY2,AZR]at h;obtain⟨rfl,a,b,f,g⟩:=h;have c:nI (U.map Int.toNat)=U:=by unfold nI;rw[List.map_map];refine(Aad fun x d => ?_).trans (List.map_id _);have:=a x d;simp only[Function.comp_apply,id_eq];omega
 refine⟨U.map Int.toNat,k.toNat,b▸(cC _).symm,fun i=>by omega,by omega,?_⟩;rw[c,show((k.toNat:Nat):Int)=k by omega];cases h
def APF:Int×Int×List (List Int)×Unit:=(2,3,[[0,1],[1,0],[2,0]],())
def AUY(i:Lk)(a m:Nat):Bool:=(List.range m).all fun j=>AUa (a+j) (@DH i (((a+j:Nat):Int),APF,()))
theorem AYY:AUY lockI 0 20=true:=by rw[Oo];kernel_rfl
theorem AYX:AUY lockI 20 11=true:=by rw[Oo];kernel_rfl
theorem ADr{a m:Nat}(h:AUY lockI a m=true){n:Nat}(b:a<=n)(c:n<a+m):AUa n (DH ((n:Int),APF,()))=true:=by unfold AUY at h;rw[AZR]at h;have:=h (n-a) (AZY.2 (by omega));rw[show a+(n-a)=n by omega]at this;exact this
theorem AT7:FO 30 APF:=fun n a=>by refine AUZ ?_;by_cases b:n<20;exact ADr AYY (by omega) (by omega);exact ADr AYX (by omega) (by omega)
theorem AAG{N:Nat}{ts:List Tie}(h:RG2 N ts)(b c:Int):HY ((((N:Int),(ts,())),(b,(c,()))),())=some (true,())\/HY ((((N:Int),(ts,())),(b,(c,()))),())=some (false,()):=by
 have a:∀ n:Int,∃ q:Bool,O4 (n,())=some (q,()):=fun n=>by rw[Xp,Rv,BQ,BQ];cases decide (0<=n)<;>exact⟨_,rfl⟩
 obtain⟨p,d⟩:=a b;obtain⟨q,e⟩:=a c;rw[jM,cD];simp only[h.lr,d,e];cases p<;>cases q<;>simp
theorem AHl{e:Edge}(h:Fz e):ADJ ((e.1,(e.2.1,())),())=some (Ck e,true,()):=by
 have a:=ADI h;unfold Fz at h;have b:(min e.1 e.2.1)*65536+max e.1 e.2.1=Ck e:=by unfold Ck MH;omega
 rw[tc,m9];dsimp only;rw[BG,BG,BG,BG,AYz (by omega),AYz (by omega),AYz (by omega),AYz (by omega)];have c:Cl e.1 e.2.1=min e.1 e.2.1:=by unfold Cl;omega
 rw[c,TU,BI (n:=min e.1 e.2.1*65536) (by omega),BI (by omega),b];have:Ck e=((MH e:Nat):Int):=rfl;rw[this,I' a]
theorem VW(l:List Edge){i:Nat}{e:Edge}(h:l[i]? = some e):Bi ((l.take i).map Ck) [Ck e]=(l.take (i+1)).map Ck:=by rw[Abw,h,AaP];rfl
section
variable {n:Int} {ts:List Tie} {b c k:Int} {xs:List Edge} {asz:List (Int×Int×Int×Unit)}
theorem AXh(E:List Edge)(h:E.length<=100000)(d:∀ e∈E,Fz e):
  A_ Ge many (n,ts,b,c,k,xs,asz,E,([]:List Int),(0:Int),())=some (.inr (.inl (n,ts,b,c,k,xs,asz,E.map Ck,()))):=by
 have e:=Is (step:=Ge) (fun i=>(n,ts,b,c,k,xs,asz,E,(E.take i).map Ck,(i:Int),())) E.length (.inr (.inl (n,ts,b,c,k,xs,asz,E.map Ck,()))) (by omega)
  (fun i hi=>by
   have a:E[i]? = some E[i]:=AZE hi
   have f:=Tv (d _ (Aaa hi))
   unfold Ge
   dsimp only
   rw[A9,A4,AY0 hi]
   simp only[BB a,CG a,f,AY4]
   rw[CN (by simp only[A9,AZZ,AZU,AaL];omega),A6 (by omega)]
   have:=VW E a
   have g:Ck E[i]=((MH E[i]:Nat):Int):=rfl
   rw[g]at this
   simp only[this])
  (by unfold Ge;dsimp only;rw[A9,A4,AYz (by omega),AZq (AY8 _)])
 exact e
end
section
variable {N:Nat} {ts:List Tie} {b c k:Int} {xs:List Edge} {asz:List (Int×Int×Int×Unit)} {cx:List Int} {f:List Bool}
theorem AXf(h:RG2 N ts)(i:Tb 6 cx f ((ts.map ed).map Ck))(u:Nat)(s:u<N):
  A_ Gc many ((N:Int),ts,b,c,k,xs,asz,(6:Int),cx,f,(u:Int),((u+1:Nat):Int),())=some (.inr (.inl ((N:Int),ts,b,c,k,xs,asz,(6:Int),cx,f,(u:Int),()))):=by
 have t:=h.hN;have l:f.length<2147483648:=by rw[i.lf];have:=i.small;omega
 have e:=Is (step:=Gc) (fun j=>((N:Int),ts,b,c,k,xs,asz,(6:Int),cx,f,(u:Int),((u+1+j:Nat):Int),())) (N-(u+1)) (.inr (.inl ((N:Int),ts,b,c,k,xs,asz,(6:Int),cx,f,(u:Int),()))) (by omega)
  (fun j w=>by
   have m:=Tv (e:=((((u+1+j:Nat):Int),((u:Int),())):Edge)) (by unfold Fz;simp only;omega)
   simp only at m
   have p:((MH (((u+1+j:Nat):Int),((u:Int),())):Nat):Int)=Ck ((u:Int),(((u+1+j:Nat):Int),())):=by
    unfold Ck MH
    simp only
    omega
   rw[p]at m
   have o:=ATB h (u:=(u:Int)) (v:=((u+1+j:Nat):Int)) (by omega) (by omega) (by omega)
   have d:=AOy (6:Int) cx f (Ck ((u:Int),(((u+1+j:Nat):Int),()))) l
   have a:=i.find (Ck ((u:Int),(((u+1+j:Nat):Int),())))
   have r:((6:Nat):Int)=6:=rfl
   rw[r]at a
   rw[a]at d
   have n:=jH h (u:Int) ((u+1+j:Nat):Int)
   unfold Gc
   dsimp only
   rw[A4,AY0 (by omega)]
   simp only[m,d,n]
   cases g:ts.any (Ep (u:Int) ((u+1+j:Nat):Int))
   ·rw[AY7 (fun q=>by rw[o,g]at q;cases q)]
    simp only[g,AZH,AZL]
    rw[BQ,AYz (by omega),A6 (by omega)]
    rfl
   ·rw[AZA (o.2 g)]
    simp only[g,AZa]
    rw[BQ,AY0 (by omega),A6 (by omega)]
    rfl)
  (by unfold Gc;dsimp only;rw[A4,AYz (by omega)])
 exact e
theorem AXg(h:RG2 N ts)(d:Tb 6 cx f ((ts.map ed).map Ck)):
  A_ Gd many ((N:Int),ts,b,c,k,xs,asz,(6:Int),cx,f,(0:Int),())=some (.inr (.inl ((N:Int),ts,b,c,k,xs,asz,(6:Int),cx,f,()))):=by
 have g:=h.hN
 have e:=Is (step:=Gd) (fun u=>((N:Int),ts,b,c,k,xs,asz,(6:Int),cx,f,(u:Int),())) N (.inr (.inl ((N:Int),ts,b,c,k,xs,asz,(6:Int),cx,f,()))) (by omega)
  (fun u a=>by
   unfold Gd
   dsimp only
   rw[A4,AY0 a,A6 (by omega)]
   simp only[AXf h d u a]
   rw[A6 (by omega)])
  (by unfold Gd;dsimp only;rw[A4,AYz (by omega)])
 exact e
theorem AXe{a d b' c':Int}{O:List Tie}(xs:List Edge)(m:xs.length<=100000)(h:∀ e∈xs,Fz e):
  A_ Gb many (k,xs,asz,a,cx,f,d,O,b',c',([]:List Int),(0:Int),())=some (.inl (a,cx,f,d,O,b',c',xs.map Ck,())):=by
 have e:=Is (step:=Gb) (fun i=>(k,xs,asz,a,cx,f,d,O,b',c',(xs.take i).map Ck,(i:Int),())) xs.length (.inl (a,cx,f,d,O,b',c',xs.map Ck,())) (by omega)
  (fun i hi=>by
   have g:xs[i]? = some xs[i]:=AZE hi
   have j:=Tv (h _ (Aaa hi))
   unfold Gb
   dsimp only
   rw[A9,A4,AY0 hi]
   simp only[BB g,j]
   rw[CN (by simp only[A9,AZZ,AZU,AaL];omega),A6 (by omega)]
   have:=VW xs g
   have l:Ck xs[i]=((MH xs[i]:Nat):Int):=rfl
   rw[l]at this
   simp only[this])
  (by unfold Gb;dsimp only;rw[A9,A4,AYz (by omega),AZq (AY8 _)])
 exact e
theorem AXd{a d:Int}(E:List Edge)(l:E.length<=100000)(h:∀ e∈E,Fz e):
  A_ Ga many (a,cx,f,d,([]:List Int),E,(0:Int),())=some (.inl (a,cx,f,d,E.map Ck,())):=by
 have e:=Is (step:=Ga) (fun i=>(a,cx,f,d,(E.take i).map Ck,E,(i:Int),())) E.length (.inl (a,cx,f,d,E.map Ck,())) (by omega)
  (fun i hi=>by
   have g:E[i]? = some E[i]:=AZE hi
   have j:=AHl (h _ (Aaa hi))
   unfold Ga
   dsimp only
   rw[A9,A4,AY0 hi]
   simp only[BB g,CG g,j]
   rw[CN (by simp only[A9,AZZ,AZU,AaL];omega),A6 (by omega)]
   simp only[VW E g])
  (by unfold Ga;dsimp only;rw[A9,A4,AYz (by omega),AZq (AY8 _)])
 exact e
end
theorem APC:n9 ()=some (8,3,2,3,[[0,1],[1,0],[2,0]],()):=by rw[n8];rfl
theorem RG2.fits{N:Nat}{ts:List Tie}(h:RG2 N ts):∀ e∈ts.map ed,Fz e:=fun e a=>by have:=h.F8 a;have:=h.hN;unfold Fz;omega
theorem kM(Q:Qo ()=some (true,()))(g:XA)(x:Kq):GA (g,x,())=some (true,()):=by
 obtain⟨⟨n,ts,⟨⟩⟩,b,c,⟨⟩⟩:=g;obtain⟨k,xs,R,⟨⟩⟩:=x;rw[SR,N7];simp only[Q,A9,BG];by_cases H:(30:Int)<ts.length;rw[AY0 H];rw[AYz H];by_cases I:(12:Int)<n;rw[AY0 I];rw[AYz I];by_cases J:(30:Int)<xs.length;rw[AY0 J];rw[AYz J];simp only;rcases Vw n ts (by omega)with⟨w,r⟩|⟨N,rfl,h⟩
 simp only[tO n ts w,AZO];simp only[tN h];by_cases y:pH ts;rotate_left;have:XW (pH ts)=false:=by
  cases z:XW (pH ts)with
   |false=>rfl
   |true=>exact absurd ((Ji _).1 z) y
 simp only[this,AZO];have A:(ts.map ed).length<=30:=by rw[AZZ];omega
 have S:((ts.map ed).map Ck).length<=30:=by rw[AZZ];exact A
 have l:Tb 6 (tab 6 ((ts.map ed).map Ck)).1 (tab 6 ((ts.map ed).map Ck)).2 ((ts.map ed).map Ck):=Tb.mk' (by omega) (by omega) h.keys (by omega);have B:((6:Nat):Int)=6:=rfl;have p:=bc (6:Int) ((ts.map ed).map Ck) (by omega);have i:=l.out;rw[B]at i;rw[i]at p;have T:=l.lf;have U:=l.lc;have V:=l.small;have s:=bw (6:Int) (tab 6 ((ts.map ed).map Ck)).1 (tab 6 ((ts.map ed).map Ck)).2 (by omega);rw[l.keys]at s;have t:=XL ((ts.map ed).map Ck) ((ts.map ed).map Ck) (by omega);rw[AY0 rfl]at t;simp only[(Ji _).2 y,AY4,X1 (N:Int) ts (by omega) h.r21,AXh (ts.map ed) (by omega) h.fits,p,E1,s,t,AXg h l,APC]
 obtain⟨C,r,K,L⟩:∃ (C:XA) (r:dT),E0 ((((N:Int),(ts,())),(b,(c,()))),((2,(xs,([],()))):Kq),((8,(3,((2,(3,([[0,1],[1,0],[2,0]],()))),()))):SB),())=some (C,r,()) /\
   (r.1=0->∃ O b' c',C=(((N:Int),(O,())),(b',(c',())))/\O.length<=ts.length/\YB N xs/\RG2 N O/\O.map ed=(ts.map ed).filter (fun e=>decide (e∉Cr N ts xs))):=by
  rcases AAG h b c with D|D
  ·exact ARE h y D xs _ (AT7.mono (by omega))
  ·exact⟨_,_,AEs D _ _,fun q=>absurd q (by simp)⟩
 first|rw[K]|erw [K]
 obtain⟨w,Z,r3,⟨⟩⟩:=r;simp only at L |-;by_cases u:w=0;rotate_left;have:ieq w 0=false:=by rw[B1,beq_eq_false_iff_ne];exact u
 simp only[this,AZO];subst u;obtain⟨O,b',c',rfl,W,a,E,X⟩:=L rfl;have F:∀ e∈xs,Fz e:=fun e G=>by have:=a e G;have:=h.hN;unfold Fz;have a1:=(a e G).1.2.2;have a2:=(a e G).2.2.2;omega
 have Y:(O.map ed).length<=30:=by rw[AZZ];omega
 obtain⟨M,P,o,hd⟩:=l.drop (xs.map Ck);have v:=APL (6:Int) (tab 6 ((ts.map ed).map Ck)).1 (tab 6 ((ts.map ed).map Ck)).2 (xs.map Ck) (by omega) (by rw[AZZ];omega);rw[B]at hd;rw[hd]at v;have m:Br ((ts.map ed).map Ck) (xs.map Ck)=(O.map ed).map Ck:=(AHj h a X).symm;rw[m]at o;have j:=zr (6:Int) ((O.map ed).map Ck) (by rw[AZZ];omega) (fun q z=>E.ATA q z);have d:=o.out;rw[B]at d;rw[d]at j;have f:=xW ((6:Int),(M,(P,()))) ((6:Int),(M,(P,()))) (by have:=o.lc;have:=o.small;simp only;omega) (by have:=o.lf;have:=o.small;simp only;omega);rw[AY0 rfl]at f;simp only[E1,AY4,AXe xs (by omega) F,v,X1 (N:Int) O (by omega) E.r21,AXd (O.map ed) (by omega) E.fits,j,f]
abbrev Bt8:=Int×(List (Int×Int×Unit))×(List (Int×Int×Int×Unit))×Unit
abbrev Wy8:=Int×Int×(Int×Int×(List (List Int))×Unit)×Unit
theorem Cy{α β:Type}(f:Lk->α->β){a:α}{v:β}(h:f idI a=v):f lockI a=v:=by rw[Oo];exact h
inductive Rn(w:Wy8):XA->List Bt8->XA->List dT->Prop
 |nil (s:XA):Rn w s [] s []
 |cons {s a t:XA} {x:Bt8} {r:dT} {xs:List Bt8} {l:List dT}:E0 (s,x,w,())=some (a,r,())->Rn w a xs t l->Rn w s (x::xs) t (r::l)
theorem Rn.iter{w:Wy8}{s t:XA}{d:List Bt8}{l:List dT}(h:Rn w s d t l):∀ (b:List Bt8) (c:List dT) (e:Int) (m:Nat),d.length<m->c.length+d.length<1000000->b.length+d.length<1000000 ->
  BA TO m (s.1.1,s.1.2.1,s.2.1,s.2.2.1,w.1,w.2.1,w.2.2.1.1,w.2.2.1.2.1,w.2.2.1.2.2.1,(0:Int),(0:Int),(0:Int),e,c,b++d,A3 (b++d),(b.length:Int),())=some (.inl (t.1.1,t.1.2.1,t.2.1,t.2.2.1,0,0,0,e,c++l,())):=by
 induction h with
  |nil s=>
   intro b c e m f _ _;obtain⟨k,rfl⟩:∃ k,m=k+1:=⟨m-1,by omega⟩
   rw[BA,TO,A9,A4,AYz (by simp),AZ8,AZ8]
  |@cons s a t x r xs l ht _ ih=>
   intro b c e m f i j;simp only[AZC]at f i j;obtain⟨k,rfl⟩:∃ k,m=k+1:=⟨m-1,by omega⟩
   have n:(b++x::xs)[b.length]? = some x:=by simp
   have g:=ih (b++[x]) (c++[r]) e k (by omega) (by grind) (by grind);simp only[Aby,Aa8,AZF,AaL]at g;obtain⟨⟨o,p,⟨⟩⟩,q,u,⟨⟩⟩:=s;obtain⟨v,y,⟨z,A,B,⟨⟩⟩,⟨⟩⟩:=w;obtain⟨C,D,E,⟨⟩⟩:=x;obtain⟨F,G,H,⟨⟩⟩:=r;rw[BA,TO,A9,A4,AY0 (by simp)];simp only[BB n,ht];rw[CN (by simp only[A9,AaL];omega),A6 (by omega)];simp only[I0,<- A9];exact g
theorem Rn.run{w:Wy8}{s t:XA}{a:List Bt8}{l:List dT}(h:Rn w s a t l)(d:HY (s,())=some (true,())){b:List Int}{p e:Int}(f:Mv (b,())=some (a,p,e,()))(o:a.length<900000)(q:l.length<900000):
  ANr (s,b,w,())=some (t,l++(if e=0 then []else [(e,((0:Int),([],())))]),e,()):=by have g:=h.iter [] [] e many (by simp only[many];omega) (by grind) (by grind);rw[ADK,AAF];obtain⟨⟨i,j,⟨⟩⟩,k,m,⟨⟩⟩:=s;simp only[d,AY4,f];rw[BO];have n:BA TO many (i,j,k,m,w.1,w.2.1,w.2.2.1.1,w.2.2.1.2.1,w.2.2.1.2.2.1,(0:Int),(0:Int),(0:Int),e,([]:List dT),a,A3 a,(0:Int),())=_:=g;simp only[n,AZk];rw[BL];by_cases c:e=0;grind;rw[AYz c,AY7 c];simp only[AZO];rw[CN (by simp only[A9,AaL];omega)];rfl
theorem Pd:n9 ()=some (8,3,2,3,[[0,1],[1,0],[2,0]],()):=by rw[n8];rfl
theorem AXq:Hn (((1:Int),(([(0,(1,())),(1,(2,())),(2,(0,())),(3,(2,()))]:List (Int×Int×Unit)),(([]:List (Int×Int×Int×Unit)),()))),())=some ([1,0,4,0,0,0,1,0,1,0,2,0,2,0,0,0,3,0,2],(0,())):=Cy (fun i=>@Hn i) (by kernel_rfl)
theorem AXp:Hn (((2:Int),(([(1,(0,()))]:List (Int×Int×Unit)),(([]:List (Int×Int×Int×Unit)),()))),())=some ([2,0,1,0,1,0,0],(0,())):=Cy (fun i=>@Hn i) (by kernel_rfl)
theorem AXo:Hn (((3:Int),(([]:List (Int×Int×Unit)),(([(3,(3,(0,()))),(4,(0,(0,())))]:List (Int×Int×Int×Unit)),()))),())=some ([3,0,2,3,0,3,0,0,4,0,0,0,0],(0,())):=Cy (fun i=>@Hn i) (by kernel_rfl)
theorem gX:cO ((5:Int),())=some (((5,([],())),(0,(0,()))),(0,())):=Cy (fun i=>@cO i) (by kernel_rfl)
theorem gN:fits (A3 ([1,0,4,0,0,0,1,0,1,0,2,0,2,0,0,0,3,0,2]:List Int)+A3 ([2,0,1,0,1,0,0]:List Int))=true:=CN (by simp[A3])
theorem gS:Bi ([1,0,4,0,0,0,1,0,1,0,2,0,2,0,0,0,3,0,2]:List Int) ([2,0,1,0,1,0,0]:List Int)=([1,0,4,0,0,0,1,0,1,0,2,0,2,0,0,0,3,0,2,2,0,1,0,1,0,0]:List Int):=rfl
theorem gM:fits (A3 ([1,0,4,0,0,0,1,0,1,0,2,0,2,0,0,0,3,0,2,2,0,1,0,1,0,0]:List Int)+A3 ([3,0,2,3,0,3,0,0,4,0,0,0,0]:List Int))=true:=CN (by simp[A3])
theorem gR:Bi ([1,0,4,0,0,0,1,0,1,0,2,0,2,0,0,0,3,0,2,2,0,1,0,1,0,0]:List Int) ([3,0,2,3,0,3,0,0,4,0,0,0,0]:List Int)=([1,0,4,0,0,0,1,0,1,0,2,0,2,0,0,0,3,0,2,2,0,1,0,1,0,0,3,0,2,3,0,3,0,0,4,0,0,0,0]:List Int):=rfl
theorem AXb:Mv (([1,0,4,0,0,0,1,0,1,0,2,0,2,0,0,0,3,0,2,2,0,1,0,1,0,0,3,0,2,3,0,3,0,0,4,0,0,0,0]:List Int),())=some ([(1,([(0,(1,())),(1,(2,())),(2,(0,())),(3,(2,()))],([],()))),(2,([(1,(0,()))],([],()))),(3,([],([(3,(3,(0,()))),(4,(0,(0,())))],())))],(39,(0,()))):=Cy (fun i=>@Mv i) (by kernel_rfl)
theorem AXa:E0 ((((5:Int),(([]:List (Int×Int×Int×Bool×Unit)),())),((0:Int),((0:Int),()))),((1:Int),(([(0,(1,())),(1,(2,())),(2,(0,())),(3,(2,()))]:List (Int×Int×Unit)),(([]:List (Int×Int×Int×Unit)),()))),((8:Int),((3:Int),(((2:Int),((3:Int),(([[0,1],[1,0],[2,0]]:List (List Int)),()))),()))),())=some (((5,([(0,(1,(0,(true,())))),(0,(2,(0,(true,())))),(1,(2,(0,(false,())))),(2,(3,(0,(true,()))))],())),(1,(16,()))),((0,(4,([],()))),())):=Cy (fun i=>@E0 i) (by kernel_rfl)
theorem AXZ:E0 ((((5:Int),(([(0,(1,(0,(true,())))),(0,(2,(0,(true,())))),(1,(2,(0,(false,())))),(2,(3,(0,(true,()))))]:List (Int×Int×Int×Bool×Unit)),())),((1:Int),((16:Int),()))),((2:Int),(([(1,(0,()))]:List (Int×Int×Unit)),(([]:List (Int×Int×Int×Unit)),()))),((8:Int),((3:Int),(((2:Int),((3:Int),(([[0,1],[1,0],[2,0]]:List (List Int)),()))),()))),())=some (((5,([(0,(2,(0,(true,())))),(1,(2,(0,(true,())))),(2,(3,(0,(true,()))))],())),(2,(28,()))),((0,(1,([],()))),())):=Cy (fun i=>@E0 i) (by kernel_rfl)
theorem AXY:E0 ((((5:Int),(([(0,(2,(0,(true,())))),(1,(2,(0,(true,())))),(2,(3,(0,(true,()))))]:List (Int×Int×Int×Bool×Unit)),())),((2:Int),((28:Int),()))),((3:Int),(([]:List (Int×Int×Unit)),(([(3,(3,(0,()))),(4,(0,(0,())))]:List (Int×Int×Int×Unit)),()))),((8:Int),((3:Int),(((2:Int),((3:Int),(([[0,1],[1,0],[2,0]]:List (List Int)),()))),()))),())=some (((5,([(0,(2,(0,(true,())))),(1,(2,(0,(true,())))),(2,(3,(0,(true,()))))],())),(3,(29,()))),((0,(0,([4,2],()))),())):=Cy (fun i=>@E0 i) (by kernel_rfl)
theorem AXi:Rn ((8:Int),((3:Int),(((2:Int),((3:Int),(([[0,1],[1,0],[2,0]]:List (List Int)),()))),()))) (((5:Int),(([]:List (Int×Int×Int×Bool×Unit)),())),((0:Int),((0:Int),()))) ([((1:Int),(([(0,(1,())),(1,(2,())),(2,(0,())),(3,(2,()))]:List (Int×Int×Unit)),(([]:List (Int×Int×Int×Unit)),()))),((2:Int),(([(1,(0,()))]:List (Int×Int×Unit)),(([]:List (Int×Int×Int×Unit)),()))),((3:Int),(([]:List (Int×Int×Unit)),(([(3,(3,(0,()))),(4,(0,(0,())))]:List (Int×Int×Int×Unit)),())))]:List (Int×(List (Int×Int×Unit))×(List (Int×Int×Int×Unit))×Unit)) (((5:Int),(([(0,(2,(0,(true,())))),(1,(2,(0,(true,())))),(2,(3,(0,(true,()))))]:List (Int×Int×Int×Bool×Unit)),())),((3:Int),((29:Int),()))) [(0,(4,([],()))),(0,(1,([],()))),(0,(0,([4,2],())))]:=.cons AXa (.cons AXZ (.cons AXY (.nil _)))
theorem AXm:HY ((((5:Int),(([]:List (Int×Int×Int×Bool×Unit)),())),((0:Int),((0:Int),()))),())=some (true,()):=Cy (fun i=>@HY i) (by kernel_rfl)
theorem VP:ANr ((((5:Int),(([]:List (Int×Int×Int×Bool×Unit)),())),((0:Int),((0:Int),()))),([1,0,4,0,0,0,1,0,1,0,2,0,2,0,0,0,3,0,2,2,0,1,0,1,0,0,3,0,2,3,0,3,0,0,4,0,0,0,0]:List Int),((8:Int),((3:Int),(((2:Int),((3:Int),(([[0,1],[1,0],[2,0]]:List (List Int)),()))),()))),())=some ((((5:Int),(([(0,(2,(0,(true,())))),(1,(2,(0,(true,())))),(2,(3,(0,(true,()))))]:List (Int×Int×Int×Bool×Unit)),())),((3:Int),((29:Int),()))),[(0,(4,([],()))),(0,(1,([],()))),(0,(0,([4,2],())))],0,()):=AXi.run AXm AXb (AZn rfl) (AZn rfl)
theorem fg:cE (([(0,(4,([],()))),(0,(1,([],()))),(0,(0,([4,2],())))]:List (Int×Int×(List Int)×Unit)),())=some ([0,0,4,0,0,0,0,1,0,0,0,0,0,0,2,0,4,0,2],(0,())):=Cy (fun i=>@cE i) (by kernel_rfl)
theorem AXs:Yy (([0,0,4,0,0,0,0,1,0,0,0,0,0,0,2,0,4,0,2]:List Int),())=some (0,(4,([],(5,(0,()))))):=Cy (fun i=>@Yy i) (by kernel_rfl)
theorem fY:TN ((((5:Int),(([(0,(2,(0,(true,())))),(1,(2,(0,(true,())))),(2,(3,(0,(true,()))))]:List (Int×Int×Int×Bool×Unit)),())),((3:Int),((29:Int),()))),([1,2,4,8]:List Int),())=some ([([0,7,16,1,12,2,18,3,22,15],([1,4,1,2,1,3,3,4,3,4],([[1],[2,3,5,7],[3],[4,5],[5],[6,6,6],[7,7,7],[8,8,8,9],[9,9,9],[0,1,1,1]],()))),([4],([1],([[0]],())))],(0,())):=Cy (fun i=>@TN i) (by kernel_rfl)
theorem fw:A3 ([(0,(4,([],()))),(0,(1,([],()))),(0,(0,([4,2],())))]:List (Int×Int×(List Int)×Unit))=3:=rfl
theorem fx:A3 ([([0,7,16,1,12,2,18,3,22,15],([1,4,1,2,1,3,3,4,3,4],([[1],[2,3,5,7],[3],[4,5],[5],[6,6,6],[7,7,7],[8,8,8,9],[9,9,9],[0,1,1,1]],()))),([4],([1],([[0]],())))]:List ((List Int)×(List Int)×(List (List Int))×Unit))=2:=rfl
theorem gG:idx ([([0,7,16,1,12,2,18,3,22,15],([1,4,1,2,1,3,3,4,3,4],([[1],[2,3,5,7],[3],[4,5],[5],[6,6,6],[7,7,7],[8,8,8,9],[9,9,9],[0,1,1,1]],()))),([4],([1],([[0]],())))]:List ((List Int)×(List Int)×(List (List Int))×Unit)) (0:Int)=some (([0,7,16,1,12,2,18,3,22,15]:List Int),(([1,4,1,2,1,3,3,4,3,4]:List Int),(([[1],[2,3,5,7],[3],[4,5],[5],[6,6,6],[7,7,7],[8,8,8,9],[9,9,9],[0,1,1,1]]:List (List Int)),()))):=BB (n:=0) rfl
theorem gJ:A7 ([([0,7,16,1,12,2,18,3,22,15],([1,4,1,2,1,3,3,4,3,4],([[1],[2,3,5,7],[3],[4,5],[5],[6,6,6],[7,7,7],[8,8,8,9],[9,9,9],[0,1,1,1]],()))),([4],([1],([[0]],())))]:List ((List Int)×(List Int)×(List (List Int))×Unit)) 0 (([]:List (Int)),(([]:List (Int)),(([]:List (List Int)),())))=(([0,7,16,1,12,2,18,3,22,15]:List Int),(([1,4,1,2,1,3,3,4,3,4]:List Int),(([[1],[2,3,5,7],[3],[4,5],[5],[6,6,6],[7,7,7],[8,8,8,9],[9,9,9],[0,1,1,1]]:List (List Int)),()))):=rfl
theorem fv:A3 ([0,7,16,1,12,2,18,3,22,15]:List Int)=10:=rfl
theorem gL:B4 (10:Int)=true:=(Hb _).2 (by omega)
theorem gE:ile (10:Int) (10:Int)=true:=by rw[BQ];rfl
theorem fi:C2 (A2 (10:Int)) (0:Int)=([0,0,0,0,0,0,0,0,0,0]:List Int):=rfl
theorem fh:C2 (A2 (10:Int)) false=([false,false,false,false,false,false,false,false,false,false]:List Bool):=rfl
theorem fe:aL ((([0,7,16,1,12,2,18,3,22,15]:List Int),(([1,4,1,2,1,3,3,4,3,4]:List Int),(([[1],[2,3,5,7],[3],[4,5],[5],[6,6,6],[7,7,7],[8,8,8,9],[9,9,9],[0,1,1,1]]:List (List Int)),()))),([0,0,0,0,0,0,0,0,0,0]:List Int),())=some ([[0],[0,0,0,0],[0],[0,0],[0],[0,0,0],[0,0,0],[0,0,0,0],[0,0,0],[0,0,0,0]],(0,())):=Cy (fun i=>@aL i) (by kernel_rfl)
theorem AXj:mM ((([0,7,16,1,12,2,18,3,22,15]:List Int),(([1,4,1,2,1,3,3,4,3,4]:List Int),(([[1],[2,3,5,7],[3],[4,5],[5],[6,6,6],[7,7,7],[8,8,8,9],[9,9,9],[0,1,1,1]]:List (List Int)),()))),([false,false,false,false,false,false,false,false,false,false]:List Bool),())=some ([[0],[0,0,0,0],[0],[0,0],[0],[0,0,0],[0,0,0],[0,0,0,0],[0,0,0],[0,0,0,0]],(0,())):=Cy (fun i=>@mM i) (by kernel_rfl)
theorem fb:aA ((([0,7,16,1,12,2,18,3,22,15]:List Int),(([1,4,1,2,1,3,3,4,3,4]:List Int),(([[1],[2,3,5,7],[3],[4,5],[5],[6,6,6],[7,7,7],[8,8,8,9],[9,9,9],[0,1,1,1]]:List (List Int)),()))),([[0],[0,0,0,0],[0],[0,0],[0],[0,0,0],[0,0,0],[0,0,0,0],[0,0,0],[0,0,0,0]]:List (List Int)),())=some (0,(0,())):=Cy (fun i=>@aA i) (by kernel_rfl)
theorem AXl:Y5 ((([0,7,16,1,12,2,18,3,22,15]:List Int),(([1,4,1,2,1,3,3,4,3,4]:List Int),(([[1],[2,3,5,7],[3],[4,5],[5],[6,6,6],[7,7,7],[8,8,8,9],[9,9,9],[0,1,1,1]]:List (List Int)),()))),([[0],[0,0,0,0],[0],[0,0],[0],[0,0,0],[0,0,0],[0,0,0,0],[0,0,0],[0,0,0,0]]:List (List Int)),(0:Int),(3:Int),())=some ([],(0,())):=Cy (fun i=>@Y5 i) (by kernel_rfl)
theorem gK:JE (((5:Int),(([(0,(2,(0,(true,())))),(1,(2,(0,(true,())))),(2,(3,(0,(true,()))))]:List (Int×Int×Int×Bool×Unit)),())),(0:Int),())=some ((5,([[0,7,16,1,12,2,18,3,22,15],[4]],())),(0,())):=Cy (fun i=>@JE i) (by kernel_rfl)
theorem AXn:ADV (((5:Int),(([[0,7,16,1,12,2,18,3,22,15],[4]]:List (List Int)),())),(3:Int),())=some (4,(0,())):=Cy (fun i=>@ADV i) (by kernel_rfl)
theorem gO:Oq (((5:Int),(([(0,(2,(0,(true,())))),(1,(2,(0,(true,())))),(2,(3,(0,(true,()))))]:List (Int×Int×Int×Bool×Unit)),())),())=some ([(0,(2,())),(1,(2,())),(2,(3,()))],()):=Cy (fun i=>@Oq i) (by kernel_rfl)
theorem gT:OK ((5:Int),([(0,(2,())),(1,(2,())),(2,(3,()))]:List (Int×Int×Unit)),())=some ([0,0,0,0,4],(0,())):=Cy (fun i=>@OK i) (by kernel_rfl)
theorem AXk:mK ((3:Int),())=some ([0,0,0],([2,1,0],(0,()))):=Cy (fun i=>@mK i) (by kernel_rfl)
theorem gU:W9 ((3:Int),(1:Int),(2:Int),())=some ([(0,(3,(-1,(0,()))))],(1,([false,false,false],([[0],[]],(false,(0,(0,(0,())))))))):=Cy (fun i=>@W9 i) (by kernel_rfl)
theorem fc:make ((4:Int),([3,1]:List Int),())=some (4,([0,0,0,0,0,0,0,0,0,1,0,0,0,3,0,0],([false,false,false,false,false,false,false,false,false,true,false,false,false,true,false,false],(0,())))):=Cy (fun i=>@make i) (by kernel_rfl)
theorem gP:PC (([(0,(1,())),(1,(2,())),(2,(0,())),(3,(2,()))]:List (Int×Int×Unit)),((8:Int),((3:Int),(((2:Int),((3:Int),(([[0,1],[1,0],[2,0]]:List (List Int)),()))),()))),())=some ([(0,(1,())),(0,(2,())),(1,(2,())),(2,(3,()))],(13,(0,()))):=Cy (fun i=>@PC i) (by kernel_rfl)
theorem gH:AAX (((5:Int),(([(0,(2,(0,(true,())))),(1,(2,(0,(true,())))),(2,(3,(0,(true,()))))]:List (Int×Int×Int×Bool×Unit)),())),([(1,(0,()))]:List (Int×Int×Unit)),())=some (5,([(0,(1,(0,(false,())))),(0,(2,(0,(true,())))),(1,(2,(0,(true,())))),(2,(3,(0,(true,()))))],(1,(0,())))):=Cy (fun i=>@AAX i) (by kernel_rfl)
theorem fk:S1 (((5:Int),(([(0,(1,(0,(false,())))),(0,(2,(0,(true,())))),(1,(2,(0,(true,())))),(2,(3,(0,(true,()))))]:List (Int×Int×Int×Bool×Unit)),())),([(1,(0,()))]:List (Int×Int×Unit)),())=some ((5,([(0,(2,(0,(true,())))),(1,(2,(0,(true,())))),(2,(3,(0,(true,()))))],())),([(false,(false,((0,(0,())),(0,()))))],(0,()))):=Cy (fun i=>@S1 i) (by kernel_rfl)
theorem fq:DH ((4:Int),((2:Int),((3:Int),(([[0,1],[1,0],[2,0]]:List (List Int)),()))),())=some ([2,3,0,1],(3,(0,()))):=Cy (fun i=>@DH i) (by kernel_rfl)
theorem gY:Kk (((5:Int),(([(0,(2,(0,(true,())))),(1,(2,(0,(true,())))),(2,(3,(0,(true,()))))]:List (Int×Int×Int×Bool×Unit)),())),((3:Int),(([]:List (Int×Int×Unit)),(([(3,(3,(0,()))),(4,(0,(0,())))]:List (Int×Int×Int×Unit)),()))),((8:Int),((3:Int),(((2:Int),((3:Int),(([[0,1],[1,0],[2,0]]:List (List Int)),()))),()))),())=some (3,([],([(3,(3,(0,()))),(4,(0,(0,())))],(0,(0,()))))):=Cy (fun i=>@Kk i) (by kernel_rfl)
theorem gW:Ov (([0,0,0,0,4]:List Int),([0,0,0,0,4]:List Int),())=some (true,()):=Cy (fun i=>@Ov i) (by kernel_rfl)
theorem fm:A3 ([2,1,0]:List Int)=3:=rfl
theorem AXr:oC (((([(0,(3,(-1,(0,()))))]:List (Int×Int×Int×Int×Unit)),((1:Int),(([false,false,false]:List Bool),()))),(([[0],[]]:List (List Int)),(false,((0:Int),((0:Int),()))))),())=some (5,()):=Cy (fun i=>@oC i) (by kernel_rfl)
theorem fy:keys (((4:Int),(([0,0,0,0,0,0,0,0,0,1,0,0,0,3,0,0]:List Int),(([false,false,false,false,false,false,false,false,false,true,false,false,false,true,false,false]:List Bool),()))),())=some ([1,3],()):=Cy (fun i=>@keys i) (by kernel_rfl)
theorem gD:A3 ([1,3]:List Int)=2:=rfl
theorem gQ:A3 ([(0,(1,())),(0,(2,())),(1,(2,())),(2,(3,()))]:List (Int×Int×Unit))=4:=rfl
theorem AXc:Yw (((5:Int),(([(0,(2,(0,(true,())))),(1,(2,(0,(true,())))),(2,(3,(0,(true,()))))]:List (Int×Int×Int×Bool×Unit)),())),())=some (true,()):=Cy (fun i=>@Yw i) (by kernel_rfl)
theorem ff:tQ (((5:Int),(([(0,(2,(0,(true,())))),(1,(2,(0,(true,())))),(2,(3,(0,(true,()))))]:List (Int×Int×Int×Bool×Unit)),())),((5:Int),(([(0,(2,(0,(true,())))),(1,(2,(0,(true,())))),(2,(3,(0,(true,()))))]:List (Int×Int×Int×Bool×Unit)),())),())=some (true,()):=Cy (fun i=>@tQ i) (by kernel_rfl)
theorem fu:A3 ([2,3,0,1]:List Int)=4:=rfl
theorem gF:idx ([(0,(4,([],()))),(0,(1,([],()))),(0,(0,([4,2],())))]:List (Int×Int×(List Int)×Unit)) (2:Int)=some ((0:Int),((0:Int),(([4,2]:List Int),()))):=BB (n:=2) rfl
theorem gI:A7 ([(0,(4,([],()))),(0,(1,([],()))),(0,(0,([4,2],())))]:List (Int×Int×(List Int)×Unit)) 2 ((0:Int),((0:Int),(([]:List (Int)),())))=((0:Int),((0:Int),(([4,2]:List Int),()))):=rfl
theorem gV:Ov (([4,2]:List Int),([4,2]:List Int),())=some (true,()):=Cy (fun i=>@Ov i) (by kernel_rfl)
theorem fa:Mz (((5:Int),(([[0,7,16,1,12,2,18,3,22,15],[4]]:List (List Int)),())),())=some (true,()):=Cy (fun i=>@Mz i) (by kernel_rfl)
theorem fZ:Pm ((([0,7,16,1,12,2,18,3,22,15]:List Int),(([1,4,1,2,1,3,3,4,3,4]:List Int),(([[1],[2,3,5,7],[3],[4,5],[5],[6,6,6],[7,7,7],[8,8,8,9],[9,9,9],[0,1,1,1]]:List (List Int)),()))),())=some (true,()):=Cy (fun i=>@Pm i) (by kernel_rfl)
theorem fj:A3 ([]:List Int)=0:=rfl
theorem wS:Qo ()=some (true,()):=by rw[p9,k6,AXq,AXp,AXo,AXk];simp only[Pd,gX,gN,gS,gM,gR,VP,fg,fY,fc,fy,fw,fx,gG,gJ,fv,gL,gE,fi,fh,fe,fb,gK,gO,gT,gU,gP,gH,fk,fq,gY,gW,fm,gD,gQ,ff,fu,gF,gI,gV,fa,fZ,fj,E1,AY4,Aaj,AaC];rw[AXs];simp only[Pd,gX,gN,gS,gM,gR,VP,fg,fY,fc,fy,fw,fx,gG,gJ,fv,gL,gE,fi,fh,fe,fb,gK,gO,gT,gU,gP,gH,fk,fq,gY,gW,fm,gD,gQ,ff,fu,gF,gI,gV,fa,fZ,fj,E1,AY4,Aaj,AaC];rw[AXj];simp only[Pd,gX,gN,gS,gM,gR,VP,fg,fY,fc,fy,fw,fx,gG,gJ,fv,gL,gE,fi,fh,fe,fb,gK,gO,gT,gU,gP,gH,fk,fq,gY,gW,fm,gD,gQ,ff,fu,gF,gI,gV,fa,fZ,fj,E1,AY4,Aaj,AaC];rw[AXl];simp only[Pd,gX,gN,gS,gM,gR,VP,fg,fY,fc,fy,fw,fx,gG,gJ,fv,gL,gE,fi,fh,fe,fb,gK,gO,gT,gU,gP,gH,fk,fq,gY,gW,fm,gD,gQ,ff,fu,gF,gI,gV,fa,fZ,fj,E1,AY4,Aaj,AaC];rw[AXn];simp only[Pd,gX,gN,gS,gM,gR,VP,fg,fY,fc,fy,fw,fx,gG,gJ,fv,gL,gE,fi,fh,fe,fb,gK,gO,gT,gU,gP,gH,fk,fq,gY,gW,fm,gD,gQ,ff,fu,gF,gI,gV,fa,fZ,fj,E1,AY4,Aaj,AaC];rw[AXr];simp only[Pd,gX,gN,gS,gM,gR,VP,fg,fY,fc,fy,fw,fx,gG,gJ,fv,gL,gE,fi,fh,fe,fb,gK,gO,gT,gU,gP,gH,fk,fq,gY,gW,fm,gD,gQ,ff,fu,gF,gI,gV,fa,fZ,fj,E1,AY4,Aaj,AaC];rw[AXc]
theorem Zm(g:XA)(x:Kq){P Q:Prop}(_:P)(_:Q):GA (g,x,())=some (true,()):=kM wS g x
end Go.Pev.Pl
end
section
namespace Go.Pev
open Go.Proofs
noncomputable section
def AW8:=Chn.g ⟨j7,pQ⟩ ⟨14,0,0,0,0,none,APD,[(.ret,AW7)],AW6,[],[]⟩ n9 Tryz.func14 n8
def AQl:=Chn.g AW8 ⟨5,0,0,0,0,none,APD,[(.ret,BP)],A5,[(28,[[44],[44],[10],[],[8,248],[],[],[],[],[],[265]]),(24,[[2],[2],[],[0,196]]),(15,[[],[86],[86],[],[86],[86],[86],[],[],[104]]),(14,[[],[86],[86],[],[86],[86],[86],[],[],[94]]),(8,[[44],[],[],[13,20],[],[47,28],[],[48,50],[],[],[],[],[45]])],[]⟩ Qo Tryz.func5 p9
def py:=Chn.g AQl ⟨3,0,0,2,0,none,N6,[(.ret,BP)],A5,[(25,[[0],[2],[2],[],[],[10],[],[],[],[],[],[27],[29]])],[(0,ku,kR),(1,kr,kQ),(2,kq,kP),(3,ko,kO),(4,kn,kN)]⟩ GA Tryz.func3 SR
end
end Go.Pev
end
section

end
