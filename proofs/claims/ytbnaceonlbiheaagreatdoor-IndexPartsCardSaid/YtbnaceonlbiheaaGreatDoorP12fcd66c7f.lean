/- A part of the proofs of this seat: CU26j CU26k CU26l CU26m EW22g EW22h EW22i EW22j EW22k EW22l EW22m EW22n EW22o EW22p EW22q EW22r EW22t EW22u EW22v CSTf EW22w MS27u MS27a MS27b MS27c MS27r MS27s MS27v MS27x U28g M28a M28b U28h U28i M28c U28j U28k QU29g QU29h QU29i QU29j QU29k NU21c NU21d NU21e NU21f R28a R28b R28c R28d U28l G28P25 G28P26 G28P. -/
import Derived.Test.YtbnaceonlbiheaaGreatDoorPa3c5be0819
import Derived.IntWalk
import Derived.Test.YtbnaceonlbiheaaGreatDoorProg
set_option linter.unusedVariables false
set_option linter.unusedSimpArgs false
set_option linter.unusedSectionVars false
set_option maxRecDepth 100000
section
namespace Go.Pev.Pl
abbrev Gk:=Int×Int×Int×Unit
abbrev Fh:=Int×List Edge×List Gk×Unit
instance (e:Edge):Decidable (LN e):=by unfold LN;exact inferInstance
def br(n:Int):Prop:=0<=n/\n<65536
instance (n:Int):Decidable (br n):=by unfold br;exact inferInstance
def TN(a:Gk):Prop:=1<=a.1/\a.1<=4/\br a.2.1/\br a.2.2.1
instance (a:Gk):Decidable (TN a):=by unfold TN;exact inferInstance
def WR(x:Fh):Prop:=((x.1=1\/x.1=2)/\x.2.2.1=[]/\x.2.1.length<=60/\∀ e∈x.2.1,LN e)\/(x.1=3/\x.2.1=[]/\x.2.2.1.length<=60/\∀ a∈x.2.2.1,TN a)
instance (x:Fh):Decidable (WR x):=by unfold WR;exact inferInstance
theorem fF(n:Int):Yi (n,())=some (decide (br n),()):=by
 rw[oU,jb];have e:IntKind.wrap .u16 n=n % 65536:=by simp[IntKind.wrap,IntKind.bits,IntKind.signed]
 rw[e,BE (by omega),BB];congr 2;rw[AXy];unfold br;omega
theorem Yf(n:Int):TZ (n,())=some (decide (1<=n/\n<=4),()):=by rw[fE,Yg,BM];by_cases h:1<=n;rw[AV2 h,BM];simp[h];grind
theorem AC4{α:Type}(P:α->Prop)[DecidablePred P](l:List α):(l.any fun x => !decide (P x)) = !decide (∀ x∈l,P x):=by grind
theorem AIJ(l:List Edge)(d:l.length<=60):Fu (l,())=some (!decide (∀ e∈l,LN e),()):=by
 have e:=KR (step:=FK) (fun i=>(l,(l.length:Int),(i:Int),())) l (fun e => !decide (LN e)) (fun i=>.inl ((i:Int),())) (.inr (.inl ())) (by omega)
  (fun i x hi b=>by
   rw[FK,A3,AV2 hi]
   simp only[A' b,fF]
   rw[A5 (by omega)]
   have a:LN x↔br x.1/\br x.2.1:=by unfold LN br;omega
   grind)
  (by rw[FK,A3,AV1 (by omega)])
 have c:A8 FK many (l,(l.length:Int),(0:Int),())=_:=e;rw[OI,Kk,Pf,MS];simp only[A6,c,AC4];by_cases h:∀ e∈l,LN e;rw[AV2 h];simp only[AV6,AWM,AWN];rw[BM,AV1 (by decide)];rw[AV1 h];simp only[AWR,AWf];rw[BM,AV2 (by omega)]
theorem AIK(l:List Gk)(f:l.length<=60):KW (l,())=some (!decide (∀ a∈l,TN a),()):=by
 have e:=KR (step:=FL) (fun i=>(l,(l.length:Int),(i:Int),())) l (fun a => !decide (TN a)) (fun i=>.inl ((i:Int),())) (.inr (.inl ())) (by omega)
  (fun i x hi c=>by
   rw[FL,A3,AV2 hi]
   simp only[A' c,Yf,fF]
   rw[A5 (by omega)]
   have b:TN x↔(1<=x.1/\x.1<=4)/\br x.2.1/\br x.2.2.1:=by unfold TN;grind
   grind)
  (by rw[FL,A3,AV1 (by omega)])
 have d:A8 FL many (l,(l.length:Int),(0:Int),())=_:=e;rw[OJ,Kl,Ph,MU];simp only[A6,d,AC4];by_cases h:∀ a∈l,TN a;rw[AV2 h];simp only[AV6,AWM,AWN];rw[BM,AV1 (by decide)];rw[AV1 h];simp only[AWR,AWf];rw[BM,AV2 (by omega)]
theorem AQ7{α:Type}(l:List α):ieq (l.length:Int) 0=decide (l=[]):=by rw[BB,AXy];simp
theorem Lj(x:Fh):jX (x,())=some (decide (WR x),()):=by
 obtain⟨k,c,b,⟨⟩⟩:=x;rw[fC,Yc];simp only[A6,AQ7];simp only[BB];have d:∀ {α:Type} (l:List α),ile (l.length:Int) 60=decide (l.length<=60):=fun l=>by rw[BM,AXy];omega
 have g:k=1\/k=2->(WR (k,c,b,())↔b=[]/\c.length<=60/\∀ e∈c,LN e):=by intro m;unfold WR;grind
 have h:k=1\/k=2->(match decide (b=[])with
   |true=>match ile (c.length:Int) 60 with
    |true=>match Fu (c,())with
     |none=>none
     |some (y0,_)=>some ((!y0),())
    |false=>some (false,())
   |false=>some (false,()))=some (decide (WR (k,c,b,())),()):=by
  intro m
  by_cases i:b=[]
  ·rw[AV2 i]
   simp only[d]
   by_cases f:c.length<=60
   ·rw[AV2 f]
    simp only[AIJ c f,Bool.not_not]
    grind
   grind
  grind
 by_cases n:k=1;grind;rw[AV1 n];by_cases o:k=2;grind;rw[AV1 o];by_cases p:k=3;rw[AV2 p];have j:WR (k,c,b,())↔c=[]/\b.length<=60/\∀ a∈b,TN a:=by unfold WR;grind
 by_cases i:c=[]
 rw[AV2 i];simp only[d];by_cases f:b.length<=60;rw[AV2 f];simp only[AIK b f,Bool.not_not];grind;grind;grind;have q:¬ WR (k,c,b,()):=by unfold WR;omega
 grind
def Kc(a:Gk):List Int:=if a.1=1 then [a.2.1,a.2.2.1]else if a.1=2\/a.1=3 then [a.2.1]else []
def ES(x:Fh):List Int:=(x.2.1.flatMap fun e=>[e.1,e.2.1])++x.2.2.1.flatMap Kc
theorem LB(a:Gk):(Kc a).length<=2:=by unfold Kc;grind
theorem AA5(a:Gk):n7 ((a.1,(a.2.1,(a.2.2.1,()))),())=some (Kc a,()):=by rw[jH,dC];simp only[BB];unfold Kc;grind
theorem Fq{α:Type}(f:α->List Int)(b:∀ a,(f a).length<=2):∀ (l:List α),(l.flatMap f).length<=2*l.length:=by
 intro l;induction l with
  |nil=>simp
  |cons a l c=>grind
theorem Vr{x:Fh}(h:x.2.1.length<=1000000)(j:x.2.2.1.length<=1000000):AC1 (x,())=some (ES x,()):=by
 obtain⟨k,c,b,⟨⟩⟩:=x;simp only at h j;rw[uD,nx];have d:∀ i,((c.take i).flatMap fun e=>[e.1,e.2.1]).length<=2000000:=fun i=>by have:=Fq (fun e:Edge=>[e.1,e.2.1]) (fun _=>by simp) (c.take i);grind
 have Q:=Gu (step:=OU) (fun i=>(k,c,b,((c.take i).flatMap fun e=>[e.1,e.2.1]),c,(c.length:Int),(i:Int),())) c.length (.inl (k,c,b,(c.flatMap fun e=>[e.1,e.2.1]),())) (by omega)
  (fun i hi=>by
   obtain⟨e,f⟩:=CT hi
   have:=d i
   rw[OU,A3,AV2 hi]
   simp only[A' f,A6,AWD,AWK]
   rw[Bo (by omega),A5 (by omega),Cl f,AW5]
   simp only[Dy]
   rfl)
  (by rw[OU,A3,AV1 (by omega),AWT])
 have Q':A8 OU many (k,c,b,([]:List Int),c,(c.length:Int),(0:Int),())=_:=Q;simp only[A6,Q']
 have R:=Gu (step:=TM) (fun i=>((c.flatMap fun e=>[e.1,e.2.1])++(b.take i).flatMap Kc,b,(b.length:Int),(i:Int),())) b.length (.inl (ES (k,c,b,()),())) (by omega)
  (fun i hi=>by
   obtain⟨a,g⟩:=CT hi
   have l:=d c.length
   rw[AWT]at l
   have m:=Fq Kc LB (b.take i)
   rw[AWt]at m
   have n:=LB a
   rw[TM,A3,AV2 hi]
   simp only[A' g,AA5,A6,AWF]
   rw[Bo (by omega),A5 (by omega),Cl g,AW5]
   simp only[Dy,AXX]
   simp)
  (by rw[TM,A3,AV1 (by omega),AWT];rfl)
 grind
theorem VQ(n:Int)(a:List Tie)(l:List Int)(d:l.length<=1000000):KV (l,n,a,())=some (n,a,(l.any fun v=>decide (n<=v)),()):=by
 have e:=KR (step:=FJ) (fun i=>(n,a,l,(l.length:Int),(i:Int),())) l (fun v=>decide (n<=v)) (fun i=>.inl (n,a,(i:Int),())) (.inr (.inl (n,a,()))) (by omega)
  (fun i x hi b=>by
   rw[FJ,A3,AV2 hi]
   simp only[A' b,BM]
   rw[A5 (by omega)]
   grind)
  (by rw[FJ,A3,AV1 (by omega)])
 have c:A8 FJ many (n,a,l,(l.length:Int),(0:Int),())=_:=e;rw[OH,Kj,Pe,MR];simp only[A6,c];cases h:(l.any fun v=>decide (n<=v))with
  |true=>simp only[AWf];rw[BM,AV2 (by omega)]
  |false=>simp only[AWM,AWN];rw[BM,AV1 (by decide)]
instance (w:Km):Decidable (Pp w):=by unfold Pp;exact inferInstance
abbrev AUx:=Int×List Edge×List Gk×Int×Int×Unit
def AQC(e:Int):AUx:=(0,[],[],0,e,())
def GR(n:Int)(a:List Tie):Prop:=∃ N:Nat,n=(N:Int)/\RG2 N a
theorem AKh(n:Int)(a:List Tie)(j:a.length<4611686018427387904):∃ b:Bool,HT ((n,(a,())),())=some (b,())/\Du ((n,(a,())),())=some (b,())/\(b=true↔GR n a):=by obtain⟨b,c,k,l⟩:=RA n a j;refine⟨b,c,k,fun d => ?_,?_⟩;obtain⟨N,rfl,e,f,g,i⟩:=l d;subst d;exact⟨N,rfl,⟨e,f,g,i,(Zn e f g i).1 c⟩⟩;rintro⟨N,rfl,h⟩;have:=h.r21;grind
section
variable {n:Int} {ts:List Tie} {x:Fh} {w:Km}
theorem AIU(d:ts.length<4611686018427387904)(h:¬ (GR n ts/\WR x)):Jw ((n,(ts,())),x,w,())=some (AQC 1):=by
 obtain⟨b,_,e,f⟩:=AKh n ts d;obtain⟨k,g,a,⟨⟩⟩:=x;rw[Ld,Le];simp only[e];cases b with
  |false=>rfl
  |true=>have c:¬ WR (k,g,a,()):=fun c=>h ⟨f.1 rfl,c⟩;simp only[AV6,Lj,AV1 c];rfl
theorem jY(h:WR x):x.2.1.length<=60/\x.2.2.1.length<=60/\(∀ e∈x.2.1,LN e):=by
 obtain⟨k,d,a,⟨⟩⟩:=x;rcases h with⟨_,b,c,f⟩|⟨_,b,c,_⟩
 all_goals grind
variable {N:Nat} (h:RG2 N ts) (hw:WR x)
include h hw
theorem AAb(g:∃ v∈ES x,(N:Int)<=v):Jw (((N:Int),(ts,())),x,w,())=some (AQC 10):=by
 obtain⟨i,j,_⟩:=jY hw;have c:=Vr (x:=x) (by omega) (by omega);have b:(ES x).length<=1000000:=by unfold ES;rw[AWF];have:=Fq (fun e:Edge=>[e.1,e.2.1]) (fun _=>by simp) x.2.1;have:=Fq Kc LB x.2.2.1;omega
 have a:((ES x).any fun v=>decide ((N:Int)<=v))=true:=by grind
 have d:=VQ (N:Int) ts (ES x) b;obtain⟨k,l,f,⟨⟩⟩:=x;rw[Ld,Le];simp only[h.lr,AV6,Lj,AV2 hw,c,d,a];rfl
variable (hv:∀ v∈ES x,v<(N:Int))
include hv
omit h hw in
theorem tZ:((ES x).any fun v=>decide ((N:Int)<=v))=false:=by grind
theorem AAc(c:x.1=3):Jw (((N:Int),(ts,())),x,w,())=some (3,[],x.2.2.1,0,0,()):=by
 obtain⟨i,j,_⟩:=jY hw;have d:=Vr (x:=x) (by omega) (by omega);have b:(ES x).length<=1000000:=by unfold ES;rw[AWF];have:=Fq (fun e:Edge=>[e.1,e.2.1]) (fun _=>by simp) x.2.1;have:=Fq Kc LB x.2.2.1;omega
 have a:=tZ hv;have f:=VQ (N:Int) ts (ES x) b;obtain⟨k,l,g,⟨⟩⟩:=x;simp only at c;subst c;rw[Ld,Le];simp only[h.lr,AV6,Lj,AV2 hw,d,f,a,BB,AWG]
theorem tc(P:x.1=1\/x.1=2):Jw (((N:Int),(ts,())),x,w,()) =
  if Pp w then
   if x.1=2 then some (2,Pk N ts x.2.1,[],Gs w (D0 x.2.1).length,0,())
   else if 400-ts.length<(DA N ts x.2.1).length then some (AQC 2)else some (1,DA N ts x.2.1,[],Gs w (D0 x.2.1).length,0,())
  else some (AQC 1):=by
 obtain⟨Q,R,f⟩:=jY hw;have D:=Vr (x:=x) (by omega) (by omega);have s:(ES x).length<=1000000:=by unfold ES;rw[AWF];have:=Fq (fun e:Edge=>[e.1,e.2.1]) (fun _=>by simp) x.2.1;have:=Fq Kc LB x.2.2.1;omega
 have o:=tZ hv;have E:=VQ (N:Int) ts (ES x) s;have F:=iT (l:=x.2.1) (b:=w.1.toNat);have p:∀ e∈KT x.2.1 w.1.toNat,In (N:Int) e.1/\In (N:Int) e.2.1:=by
  intro e G;obtain⟨S,T,t⟩:=(O1 f e).1 G;have H:e.2.1<(N:Int):=by refine hv _ ?_;unfold ES;refine AWL.2 (.inl (AYD.2 ?_));rcases t with t|t;all_goals grind
  have U:=h.hN;have V:=h.h1;unfold In;omega
 have u:Pk N ts (KT x.2.1 w.1.toNat)=Pk N ts x.2.1:=by unfold Pk;rw[Wz f]
 have y:DA N ts (KT x.2.1 w.1.toNat)=DA N ts x.2.1:=by unfold DA;rw[Wz f]
 have j:=gg h (KT x.2.1 w.1.toNat) (by omega);rw[AWB p,u]at j;have g:=sK h.h1 h.hN ts h.ht (KT x.2.1 w.1.toNat) (by omega) h.lr;rw[AWB p,y]at g;have r:=Lj x;rw[AV2 hw]at r;have z:=fun i=>AAB (w:=w) f (by omega) i;have A:=fun i=>AAC (w:=w) f (by omega) i;have B:ieq x.1 3=false:=by rw[BB];grind
 have W:=h.ht;have m:AC2 (((N:Int),(ts,())),())=some (((400-ts.length:Nat):Int),()):=by rw[uF,n5];simp only[h.lr,AV6,A6];rw[BE (by omega),show(400:Int)-(ts.length:Int)=((400-ts.length:Nat):Int) by omega]
 have I:ieq (0:Int) 0=true:=by rw[BB];rfl
 have J:ieq (1:Int) 0=false:=by rw[BB];rfl
 obtain⟨k,K,L,⟨⟩⟩:=x;obtain⟨b,c,⟨a,d,q,⟨⟩⟩,⟨⟩⟩:=w;rw[Ld,Le];simp only[h.lr,AV6,r,D,E,o,B];by_cases i:Pp (b,c,(a,d,q,()),());rw[AWB i];simp only[z i,I,AV6];by_cases M:k=2;subst M;rw[AWB rfl,BB,AV2 rfl];grind;have O:k=1:=by omega
 subst O;rw[AV9 (by decide),BB,AV1 (by decide)];simp only[g,m,A6,A3];by_cases C:400-ts.length<(DA N ts K).length;rw[AWB C,AV2 C];rfl;grind;rw[AV9 i];simp only[A i,J,AWR];rfl
end
open Tok
theorem zd{n:Int}{a:List (List Int)}(h:FR n a){i:Nat}{A:List Int}{v:Int}(c:In n v)(hi:a[i]? = some A)(e:v∈A):VE ((n,(a,())),v,())=some (hd A,0,()):=by
 have d:=h.dom;have b:=RH.2 h;have j:=h.rg A (AWA hi);have f:MY ((n,(a,())),[v],())=some (0,()):=by rw[Qu n a _ d (by simp),AOn];grind
 have g:idx A (0:Int)=some (hd A):=by
  cases A with
   |nil=>grind
   |cons x A=>rw[Ht];rfl
 rw[iO,bq];simp only[f,Dw,AV6,ABO n a v d,b,c,and_self,AWf,h.kj hi c.2.2.2 e,A' hi,g]
theorem iP{n:Int}{a:List (List Int)}{l:List Edge}{out:List Int}(h:FC n a l)(d:Vw n l out){v:Int}(b:In n v):VE ((n,(a,())),v,())=some (cl out v,0,()):=by obtain⟨i,A,_,hi,c,_⟩:=QL (h.fr.cov v b);rw[zd h.fr b hi c,bY h d (AWA hi) b c]
theorem dW{N:Nat}(s:1<=N)(t:N<=64){b:List (List Int)}{base:List Edge}{out:List Int}(h:FC (N:Int) b base)(d:Vw (N:Int) base out)(l:List Edge)(k:l.length<1073741824)(f:∀ e∈l,In (N:Int) e.1/\In (N:Int) e.2.1):
  Oq (((N:Int),(b,())),l,())=some (l.map fun e=>(cl out e.1,cl out e.2.1,()),0,()):=by
 have g:=h.fr.dom;have m:=RH.2 h.fr;have n:NH (((N:Int),(b,())),())=some (true,()):=by rw[Lt _ _ g.1 g.2];grind
 rw[Rp,NS];simp only[n,AV6,ZS (N:Int) l ⟨by omega,by omega⟩ k f,Dw]
 have e:=DS (step:=GB) (fun i (a:List Edge)=>((N:Int),b,a,l,A2 l,(i:Int),())) l (fun x a=>.inl (a++[(cl out x.1,cl out x.2.1,())])) (fun a=>.inl (a,())) (fun i a=>a.length<=i) (by omega)
  (fun i x a hi j u=>by
   refine⟨fun v c => ?_,fun r c=>(by cases c)⟩
   cases c
   obtain⟨o,p⟩:=f x (AWA j)
   constructor
   ·rw[GB,A6,A3,AV2 hi]
    simp only[A' j,iP h d o,iP h d p]
    rw[Bo (by simp only[A6,AWD,AWK];omega),A5 (by omega)]
    rfl
   grind)
  (fun a _=>by rw[GB,A6,A3,AV1 (by omega)]) [] (AV8 _)
 have q:A8 GB many ((N:Int),b,[],l,A2 l,(0:Int),())=_:=e;simp only[q];rw[B' (fun(x:Edge) (a:List Edge)=>a++[(cl out x.1,cl out x.2.1,())]),iM (fun x:Edge=>(cl out x.1,cl out x.2.1,()))];rfl
theorem pd{N:Nat}(n:1<=N)(m:N<=64){c:List (List Int)}{base:List Edge}(h:FC (N:Int) c base)(l:List Edge)(v:base.length+l.length<1073741824)(q:∀ e∈base,In (N:Int) e.1/\In (N:Int) e.2.1)(f:∀ e∈l,In (N:Int) e.1/\In (N:Int) e.2.1):
  X0 (((N:Int),(c,())),l,())=some (gfl base l,0,()):=by
 obtain⟨out,_,g⟩:=He (N:Int) base ⟨by omega,by omega⟩ (by omega) q;have d:∀ a:Int,(0<=a/\a<(N:Int))->In (N:Int) a:=fun a h=>r6 n m h;obtain⟨s,w⟩:=ml n m (l.map fun e=>(cl out e.1,cl out e.2.1,())) (by grind) (fun e i=>by obtain⟨x,j,rfl⟩:=AWV.1 i;exact⟨g.isin _ (f x j).1,g.isin _ (f x j).2⟩)
 have r:Tt ((List.range N).map (fun(k:Nat)=>(k:Int)),l.map fun e=>(cl out e.1,cl out e.2.1,()),())=some (s,gfl [] (l.map fun e=>(cl out e.1,cl out e.2.1,())),()):=by rw[Ts,Rl];grind
 rw[ZQ,Tv];simp only[dW n m h g l (by omega) f,Dw,AV6,ZZ N m,r];rw[<- ARz (fun e=>(cl out e.1,cl out e.2.1,())) l base [] (fun p x s e=>by
  have t:∀ y∈p,y∈l:=fun y z=>by grind
  have j:x∈l:=by grind
  rw[AWh,AXa,LZ,LZ];exact nG (N:=N) (fun a b o u=>g.same a b (d a o) (d b u)) (fun a o=>g.con a (d a o)) (fun e i=>lz (q e i)) (fun e i=>lz (f e (t e i))) (lz (f x j)).1 (lz (f x j)).2)]
section
variable {α β:Type} [DecidableEq α]
end
end Go.Pev.Pl
end
section
namespace Go.Pev.Pl.ST
open Go.Sort
theorem Mo{x y:Int×Int×Int×Bool×Unit}(_:ok x)(_:ok y):∃ c,C4 (x,y,())=some (c,())/\ilt c (0:Int)=lt x y:=by
 rw[sM,mT,N3,MX];simp only[OK,or_val,BD,lt];refine⟨_,rfl,?_⟩;apply AXy.2;by_cases d:x.1<y.1;simp[d];by_cases f:y.1<x.1;have a:¬ x.1=y.1:=by omega
 simp[d,f,a];have a:x.1=y.1:=by omega
 by_cases b:x.2.1<y.2.1;simp[a,b];by_cases e:y.2.1<x.2.1;simp[a,b,e];simp[a,b,e]
noncomputable def S:SG.SP (Int×Int×Int×Bool×Unit) Int:=⟨((0:Int),((0:Int),((0:Int),(false,())))),C4,tLt,ok,okz,QV,lt,swo,fun a b=>Mo a b⟩
theorem FF(xs:List (Int×Int×Int×Bool×Unit))(h:xs.length<4294967296)(a:∀ x∈xs,ok x):∃ ys,ABW (xs,())=some (ys,())/\ys.Perm xs/\ys.Pairwise fun x y=>lt y x=false:=SG.FF S xs h a
end Go.Pev.Pl.ST
end
section
namespace Go.Pev.Pl
open Tok
theorem AHN(n e:Int)(b d:List Tie)(xs:List Edge)(c:List Bool)(o:xs.length<=4096)(p:d.length<=400)(q:c.length=xs.length):
  A8 PB many (n,b,e,xs,c,d,A2 xs,(0:Int),())=some (.inl (n,b,e,xs,d++R_ xs c xs.length,())):=by
 have j:=DS (step:=PB) (fun i (a:List Tie)=>(n,b,e,xs,c,a,A2 xs,(i:Int),())) (List.range xs.length) (fun i a=>.inl (a++[Rg (xs.getD i (0,0,())) (c.getD i false)])) (fun a=>.inl (n,b,e,xs,a,())) (fun i a=>a.length=d.length+i) (by grind)
  (fun i x a hi f s=>by
   refine⟨fun t g => ?_,fun r g=>(by cases g)⟩
   cases g
   have:=Ed f
   subst this
   rw[AWJ]at hi
   constructor
   ·rw[PB,A6,A3,AV2 hi]
    simp only[C3 ((0:Int),((0:Int),())) hi,C3 false (show x<c.length by omega),IE]
    rw[A5 (by omega),Bo (by simp only[A6,AWD,AWK];omega)]
    rfl
   grind)
  (fun a _=>by rw[PB,AWJ,A6,A3,AV1 (by omega)]) d rfl
 have l:A8 PB many (n,b,e,xs,c,d,A2 xs,(0:Int),())=_:=j;rw[l,B' (fun(i:Nat) (a:List Tie)=>a++[Rg (xs.getD i (0,0,())) (c.getD i false)])];have h:∀ k,(List.range k).foldl (fun(a:List Tie) (i:Nat)=>a++[Rg (xs.getD i (0,0,())) (c.getD i false)]) d=d++R_ xs c k:=by
  intro k;induction k with
   |zero=>simp[R_]
   |succ k m=>rw[AWX,AXK,m,AFy];simp
 rw[h]
theorem ANN{N:Nat}{a:List Tie}(h:RG2 N a)(l:List Edge)(p:l.length<1073741824):
  (∃ e,e≠0/\AHO (((N:Int),(a,())),l,())=some ((N:Int),a,0,e,())) \/
  (AOs N l/\a.length+(DA N a l).length<=400/\AHO (((N:Int),(a,())),l,())=some ((N:Int),grown N a l,((DA N a l).length:Int),0,())):=by
 have f:=sK h.h1 h.hN a h.ht l p h.lr;rw[ACf,zS];by_cases b:¬ ∀ e∈l,In (N:Int) e.1/\In (N:Int) e.2.1;rw[AV9 b]at f;left;simp only[f,BB];simp;have b:=AX6.1 b;rw[AWB b]at f;have q:=AIN N h.hN a l;have g:=AOB h.hN a l;have r:=bZ N a l;have i:=(R8 N _).1 (AHC h.hN h.oks l);have d:=mQ (DA N a l) (trs a a.length);have x:=h.ht;have s:=h.AVl;generalize hgt:grown N a l=ts' at *;have t:ACb (((N:Int),(a,())),A2 (DA N a l),())=some (decide (a.length+(DA N a l).length<=400),()):=by rw[sI,mO];simp only[A6];rw[wrap_add (by omega),BM];congr 2;grind
 simp only[f,Dw,AV6,t];by_cases c:¬ a.length+(DA N a l).length<=400;grind;have c:=AX6.1 c;right;rw[AV2 c];obtain⟨j,k,u⟩:=rZ h.h1 h.hN a h.ht h.oks h.lr;have m:=pd h.h1 h.hN u (DA N a l) (by omega) h.inT g;obtain⟨ys,o,v,w⟩:=ST.FF (a++R_ (DA N a l) (gfl (trs a a.length) (DA N a l)) (DA N a l).length) (by rw[AWF,R_,AWQ,AWJ];omega) (fun _ _=>trivial);rw[vg (N:=N) v w i.2 r.symm]at o;refine⟨b,c,?_⟩;have n:=AHN (N:Int) 0 a a (DA N a l) _ (by omega) h.ht d;simp only[AV6,k,m,HK (show a.length<=4294967296 by omega),n,o];rfl
theorem oO{b:List Int}(a:by8 b)(e:b.length<4611686018427387904)(i:Nat)(hi:i<4611686018427387904):RJ (b,(i:Int),())=some (if i+2<=b.length then(num b i,true,())else(0,false,())):=by rw[Ye,TY];simp only[A6];rw[BD,AV1 (by omega),BE (by omega),BD];by_cases h:i+2<=b.length;rw[AV1 (by omega),AWB h];have c:=FV a i;have d:=FV a (i+1);simp only[C3 0 (show i<b.length by omega)];rw[BE (by omega),BE (by omega),show((i:Int)+1)=((i+1:Nat):Int) by simp];simp only[C3 0 (show i+1<b.length by omega)];rw[NQ,dV,AV9 (by omega),show(2:Int) ^ min (8:Int).toNat (IntKind.bits .i64)=256 from by decide,V_ (by omega),BE (by omega)];simp only[];rw[AQr c d,BE (by omega)];rfl;grind
theorem v7(a b:Res)(c:a.2.2.1.length<9223372036854775808):QA (a,b,())=some (decide (a=b),()):=by obtain⟨d,e,f,_⟩:=a;obtain⟨g,h,i,_⟩:=b;rw[fy,ZX,BB,BB];simp only at c |-;by_cases j:d=g;rw[AV2 j];by_cases k:e=h;rw[AV2 k];simp only[AGz f i c];simp_all;simp_all;simp_all
theorem cU{N:Nat}{out:List Int}(f:out.length=N)(vs:List Int)(k:vs.length<100):VP (out,vs,())=some (decide (∀ v∈vs,InV N v),()):=by
 rw[iZ,cV,IK,Ff,Jf,GM]
 have e:=KR (step:=DN) (fun i=>(out,vs,A2 vs,(i:Int),())) vs (fun x => !decide (InV N x)) (fun i=>.inl (out,(i:Int),())) (.inr (.inl (out,()))) (by omega)
  (fun i x hi g=>by
   rw[DN]
   simp only[A6]
   rw[A3,AV2 hi]
   simp only[A' g]
   rw[BD,BM,f,A5 (by omega)]
   by_cases c:x<0
   ·rw[AV2 c,AV1 (show ¬ InV N x from fun h=>by have:=h.1;omega)];rfl
   ·rw[AV1 c]
    by_cases d:(N:Int)<=x
    ·rw[AV2 d,AV1 (show ¬ InV N x from fun h=>by have:=h.2;omega)];rfl
    ·rw[AV1 d,AV2 (show InV N x from⟨by omega,by omega⟩)];rfl)
  (by rw[DN,A6,A3,AV1 (by omega)])
 have j:A8 DN many (out,vs,A2 vs,(0:Int),())=_:=e;simp only[j];have a:(vs.any fun x => !decide (InV N x)) = !decide (∀ v∈vs,InV N v):=by grind
 rw[a];generalize decide (∀ v∈vs,InV N v)=b;cases b<;>simp[BM]
theorem AAM{N:Nat}(g:N<=64){out:List Int}(b:out.length=N)(k u v:Int)(h:InV N u):ca (out,out,k,u,v,())=some (out,k,u,v,(AVQ out N (cl out u):Int),()):=by
 rw[ij,cZ]
 have e:=DS (step:=LX) (fun i (a:Nat)=>(out,k,u,v,(a:Int),out,A2 out,(i:Int),())) (List.range N) (fun k a=>.inl (if out.getD k 0=cl out u then a+1 else a)) (fun a=>.inl (out,k,u,v,(a:Int),())) (fun i a=>a<=i) (by grind)
  (fun i x a hi d j=>by
   refine⟨fun l c => ?_,fun r c=>(by cases c)⟩
   cases c
   have:=Ed d
   subst this
   rw[AWJ]at hi
   constructor
   ·rw[LX,A6,b,A3,AV2 hi]
    simp only[C3 0 (show x<out.length by omega),nZ b h,BB]
    rw[A5 (by omega),A5 (by omega)]
    grind
   grind)
  (fun a _=>by rw[LX,AWJ,A6,b,A3,AV1 (by omega)]) 0 (AV8 _)
 have f:A8 LX many (out,k,u,v,(0:Int),out,A2 out,(0:Int),())=_:=e;simp only[f];rw[B' (fun k a=>if out.getD k 0=cl out u then a+1 else a),iL (fun k=>out.getD k 0=cl out u),AWs];rfl
theorem AAL{N:Nat}(g:N<=64){out:List Int}(c:out.length=N):nE (out,())=some ((cnt out N:Int),()):=by
 rw[ig,cY]
 have e:=DS (step:=LW) (fun i (a:Nat)=>((a:Int),out,A2 out,(i:Int),())) (List.range N) (fun k a=>.inl (if out.getD k 0=(k:Int)then a+1 else a)) (fun a=>.inl ((a:Int),())) (fun i a=>a<=i) (by grind)
  (fun i x a hi d h=>by
   refine⟨fun j b => ?_,fun r b=>(by cases b)⟩
   cases b
   have:=Ed d
   subst this
   rw[AWJ]at hi
   constructor
   ·rw[LW,A6,c,A3,AV2 hi]
    simp only[C3 0 (show x<out.length by omega),BB]
    rw[A5 (by omega),A5 (by omega)]
    grind
   grind)
  (fun a _=>by rw[LW,AWJ,A6,c,A3,AV1 (by omega)]) 0 (AV8 _)
 have f:A8 LW many ((0:Int),out,A2 out,(0:Int),())=_:=e;simp only[f];rw[B' (fun k a=>if out.getD k 0=(k:Int)then a+1 else a),iL (fun k=>out.getD k 0=(k:Int)),AWs];rfl
theorem tu{N:Nat}(e:N<=64){out:List Int}(b:out.length=N)(a:Ask):YW (out,a,())=some (ans N out a):=by obtain⟨k,u,v,⟨⟩⟩:=a;rw[cy,Vo];unfold ans;simp only[BB,cU b [u,v] (by simp),cU b [u] (by simp),AAL e b];by_cases c:k=1;simp only[AV2 c,AWB c];by_cases h:InV N u/\InV N v;rw[AWB h,AV2 (show ∀ x∈[u,v],InV N x by simp[h])];simp only[AV6,nZ b h.1,nZ b h.2];grind;grind;simp only[AV1 c,AV9 c];by_cases d:k=2;simp only[AV2 d,AWB d];by_cases h:InV N u;rw[AWB h,AV2 (show ∀ x∈[u],InV N x by simp[h])];simp only[AV6,nZ b h];grind;simp only[AV1 d,AV9 d];by_cases f:k=3;simp only[AV2 f,AWB f];by_cases h:InV N u;rw[AWB h,AV2 (show ∀ x∈[u],InV N x by simp[h])];simp only[AV6,AAM e b k u v h];grind;grind
theorem AKI{N:Nat}{a:List Tie}(h:RG2 N a):∃ out:List Int,ABc (((N:Int),(a,())),())=some (out,true,())/\out.length=N/\Vw (N:Int) (a.map ed) out:=by
 have c:Sz (N:Int):=⟨by have:=h.h1;omega,by have:=h.hN;omega⟩
 obtain⟨d,e,b⟩:=kI (N:Int) (a.map ed) c (by rw[AWQ];have:=h.ht;omega) h.inE;refine⟨d,?_,by have:=b.len;omega,b⟩;rw[pf,kK];simp only[h.lr,AV6,Qc (N:Int) a h.ht h.lr,e]
theorem kL{N:Nat}{f:List Tie}(h:RG2 N f)(l:List Ask)(w:l.length<=1000000):∃ (b:List Int) (e:Int),NV (((N:Int),(f,())),l,())=some (b,e,())/\b.length<=l.length:=by
 obtain⟨out,j,m,_⟩:=AKI h;have n:=h.hN;rw[WV,P_];simp only[j,AV6]
 have e:=DS (step:=Fi) (fun i (a:List Int)=>(out,a,l,A2 l,(i:Int),())) l (fun x a=>if(ans N out x).2.1=0 then .inl (a++[(ans N out x).1])else .inr (.inl ((ans N out x).2.1,()))) (fun a=>.inr (.inl (a,()))) (fun i a=>a.length=i) (by omega)
  (fun i x a hi o y=>by
   have d:Fi (out,a,l,A2 l,(i:Int),())=if(ans N out x).2.1=0 then some (.inl (out,a++[(ans N out x).1],l,A2 l,((i+1:Nat):Int),()))else some (.inr (.inl ((ans N out x).2.1,()))):=by
    obtain⟨p,r,s,⟨⟩⟩:=x
    rw[Fi,A6,A3,AV2 hi]
    simp only[A' o,tu n m]
    generalize ans N out (p,(r,(s,())))=q
    obtain⟨z,t,⟨⟩⟩:=q
    simp only[BB]
    by_cases g:t=0
    ·rw[AV2 g,AWB g]
     simp only[AV6]
     rw[Bo (by simp only[A6,AXE];omega),A5 (by omega)]
     rfl
    grind
   grind)
  (fun a _=>by rw[Fi,A6,A3,AV1 (by omega)]) [] rfl
 have u:A8 Fi many (out,([]:List Int),l,A2 l,(0:Int),())=_:=e;simp only[u];have d:∀ (xs:List Ask) (a:List Int),(∃ c:Int,walk (ρ:=(Int×Unit)⊕(List Int×Unit)⊕Unit) (fun x a=>if(ans N out x).2.1=0 then .inl (a++[(ans N out x).1])else .inr (.inl ((ans N out x).2.1,()))) (fun a=>.inr (.inl (a,()))) xs a = .inl (c,()))\/∃ b:List Int,walk (ρ:=(Int×Unit)⊕(List Int×Unit)⊕Unit) (fun x a=>if(ans N out x).2.1=0 then .inl (a++[(ans N out x).1])else .inr (.inl ((ans N out x).2.1,()))) (fun a=>.inr (.inl (a,()))) xs a = .inr (.inl (b,()))/\b.length=a.length+xs.length:=by
  intro xs;induction xs with
   |nil=>exact fun a=>.inr ⟨a,rfl,rfl⟩
   |cons x xs v=>
    intro a;rw[walk];by_cases q:(ans N out x).2.1=0
    ·rw[AWB q];rcases v (a++[(ans N out x).1])with h|⟨b,A,B⟩
     all_goals grind
    grind
 rcases d l []with⟨c,k⟩|⟨b,k,C⟩
 all_goals grind
end Go.Pev.Pl
end
section
namespace Go.Pev
open Go.Proofs
noncomputable section
abbrev pvT(ns:List Int):Option (List Int):=gU 229 [.i64] (.panic [Cu (wm 229 [.i64] ns)])
def ARb[Lk]:(Int×Unit)->Option (Unit⊕(List Int×Unit)):=fun(a,_)=>
 match(!(ieq a (0:Int)))with
 |true=>some (.inr ([a],()))
 |false=>some (.inl ())
theorem AG2:∀ v,ARb v=Cm 0 Tryz.prog GL.e YM Tryz.f213 Ic Ib KK 229 [.i64] O6 v:=by intro _;kernel_rfl
def Ql[Lk](v:Int×Unit):Option (Unit⊕(List Int×Unit)):=Wm v
abbrev ue:=Int×List (Int×Int×Int×Bool×Unit)×Int×Int×Int×Int×List Int×Unit
def SU[Lk]:(Int×List (Int×Int×Int×Bool×Unit)×Int×Int×Int×Int×List Int×(Int×List (Int×Int×Unit)×List (Int×Int×Int×Unit)×Unit)×(Int×Int×(Int×Int×List (List Int)×Unit)×Unit)×Unit)->Option (ue⊕(List Int×Unit)):=fun(b,c,d,e,f,i,g,h,a,_)=>
 match Jw ((b,(c,())),(h.1,(h.2.1,(h.2.2.1,()))),(a.1,(a.2.1,((a.2.2.1.1,(a.2.2.1.2.1,(a.2.2.1.2.2.1,()))),()))),())with
 |none=>none
 |some (y0,y1,y2,y3,y4,_)=>match Ql (y4,())with
  |none=>none
  |some r=>match r with
   |.inr (ns,_)=>match pvT ns with
    |some n=>some (.inr (n,()))
    |none=>none
   |.inl _=>match DE ((w64 ((A2 y1)+(A2 y2))),(a.2.2.1.1,(a.2.2.1.2.1,(a.2.2.1.2.2.1,()))),())with
    |none=>none
    |some (z0,z1,z2,_)=>match Ql (z2,())with
     |none=>none
     |some r=>match r with
      |.inr (ns,_)=>match pvT ns with
       |some n=>some (.inr (n,()))
       |none=>none
      |.inl _=>match(ieq y0 (1:Int))with
       |true=>match AHO ((b,(c,())),y1,())with
        |none=>none
        |some (u0,u1,u2,u3,_)=>match Ql (u3,())with
         |none=>none
         |some r=>match r with
          |.inr (ns,_)=>match pvT ns with
           |some n=>some (.inr (n,()))
           |none=>none
          |.inl _=>some (.inl (u0,u1,(w64 (d+(1:Int))),(w64 (e+(w64 (y3+z1)))),f,u2,g,()))
       |false=>match(ieq y0 (2:Int))with
        |true=>match qS ((b,(c,())),y1,())with
         |none=>none
         |some (u0,u1,u2,_)=>match Ql (u2,())with
          |none=>none
          |some r=>match r with
           |.inr (ns,_)=>match pvT ns with
            |some n=>some (.inr (n,()))
            |none=>none
           |.inl _=>some (.inl (u0.1,u0.2.1,(w64 (d+(1:Int))),(w64 (e+(w64 (y3+z1)))),f,(A2 y1),g,()))
        |false=>match(ieq y0 (3:Int))with
         |true=>match NV ((b,(c,())),y2,())with
          |none=>none
          |some (u0,u1,_)=>match Ql (u1,())with
           |none=>none
           |some r=>match r with
            |.inr (ns,_)=>match pvT ns with
             |some n=>some (.inr (n,()))
             |none=>none
            |.inl _=>some (.inl (b,c,(w64 (d+(1:Int))),(w64 (e+(w64 (y3+z1)))),f,i,u0,()))
         |false=>match Ql (z2,())with
          |none=>none
          |some r=>match r with
           |.inr (ns,_)=>match pvT ns with
            |some n=>some (.inr (n,()))
            |none=>none
           |.inl _=>some (.inl (b,c,(w64 (d+(1:Int))),(w64 (e+(w64 (y3+z1)))),f,i,g,()))
def zF[Lk](v:(Int×List (Int×Int×Int×Bool×Unit)×Int×Int×Int×Int×List Int×(Int×List (Int×Int×Unit)×List (Int×Int×Int×Unit)×Unit)×(Int×Int×(Int×Int×List (List Int)×Unit)×Unit)×Unit)):Option (ue⊕(List Int×Unit)):=ar v
theorem AGu:∀ v,SU v=Cm 1 Tryz.prog TS YJ Tryz.f144 Ia IZ KI 229 [.i64] O5 v:=by intro _;kernel_rfl
abbrev AVf:=(Int×List (Int×Int×Int×Bool×Unit)×Unit)×Int×Int×Unit
abbrev AV0:=Int×List (Int×Int×Unit)×List (Int×Int×Int×Unit)×Unit
abbrev AVx:=Int×Int×(Int×Int×List (List Int)×Unit)×Unit
def al[Lk]:(AVf×AV0×AVx×Unit)->Option (AVf×(Int×Int×List Int×Unit)×Unit):=fun(s,x,w,_)=>
 match FA (((s.1.1,(s.1.2.1,())),(s.2.1,(s.2.2.1,()))),())with
 |none=>none
 |some (y0,_)=>match(!y0)with
  |true=>some (((s.1.1,(s.1.2.1,())),(s.2.1,(s.2.2.1,()))),(1,(0,([],()))),())
  |false=>match zF (s.1.1,s.1.2.1,s.2.1,s.2.2.1,(0:Int),(0:Int),[],(x.1,(x.2.1,(x.2.2.1,()))),(w.1,(w.2.1,((w.2.2.1.1,(w.2.2.1.2.1,(w.2.2.1.2.2.1,()))),()))),())with
   |none=>none
   |some r=>match r with
    |.inr (ns,_)=>some (((s.1.1,(s.1.2.1,())),(s.2.1,(s.2.2.1,()))),(ns.headD 0,(0,([],()))),())
    |.inl (a0,a1,a2,a3,a4,a5,a6,_)=>some (((a0,(a1,())),(a2,(a3,()))),(a4,(a5,(a6,()))),())
theorem ak:∀ v,al v=Nc Tryz.prog TR Tryz.f68 2 LG LF Nt {} O4 UR ao 3 v:=by intro _;kernel_rfl
end
end Go.Pev
end
section
namespace Go.Pev.Pl
theorem Hs(e:Int):Ql (e,())=if e=0 then some (.inl ())else some (.inr ([e],())):=by show Wm (e,())=_;refine((bH _).trans (AG2 _).symm).trans ?_;show(match(!(ieq e (0:Int)))with|true=>some (Sum.inr ([e],()))|false=>some (Sum.inl ()))=_;rw[BB];grind
theorem R0(e:Int):pvT [e]=some [e]:=by kernel_rfl
section
variable {n:Int} {ts:List Tie} {b c:Int} {x:Fh} {w:Km}
def Gh(n:Int)(ts:List Tie)(b c:Int)(x:Fh)(w:Km)(r:ue⊕(List Int×Unit)):Prop:=zF (n,ts,b,c,(0:Int),(0:Int),[],x,w,())=some r
theorem mu(x:Fh)(w:Km):zF (n,ts,b,c,(0:Int),(0:Int),[],x,w,())=SU (n,ts,b,c,(0:Int),(0:Int),[],x,w,()):=(aq _).trans (AGu _).symm
theorem S5{k:Int}{d:List Edge}{a:List Gk}{m e:Int}(f:Jw ((n,(ts,())),x,w,())=some (k,d,a,m,e,()))(g:e≠0):Gh n ts b c x w (.inr ([e],())):=by unfold Gh;rw[mu];obtain⟨h,i,j,⟨⟩⟩:=x;obtain⟨l,o,⟨p,q,r,⟨⟩⟩,⟨⟩⟩:=w;rw[SU];simp only[f,Hs,AV9 g,R0]
theorem AHy{k:Int}{d:List Edge}{a:List Gk}{m:Int}(f:Jw ((n,(ts,())),x,w,())=some (k,d,a,m,0,()))(j:d.length<=100000)(l:a.length<=100000){e:Int}{U:List Int}{q:Int}(g:DE (((d.length+a.length:Nat):Int),w.2.2.1,())=some (U,q,e,()))(h:e≠0):Gh n ts b c x w (.inr ([e],())):=by
 unfold Gh;rw[mu];obtain⟨o,p,r,⟨⟩⟩:=x;obtain⟨s,t,⟨u,v,y,⟨⟩⟩,⟨⟩⟩:=w;rw[SU];have i:w64 ((A2 d)+(A2 a))=((d.length+a.length:Nat):Int):=by rw[A6,A6,wrap_add (by omega)]
 simp only[f,Hs,AWf,i];simp only[g,Hs,AV9 h,R0]
theorem ASD{k:Int}{f:List Edge}{d:List Gk}{m:Int}(o:Jw ((n,(ts,())),x,w,())=some (k,f,d,m,0,()))(s:f.length<=100000)(t:d.length<=100000){U:List Int}{q:Int}(p:DE (((f.length+d.length:Nat):Int),w.2.2.1,())=some (U,q,0,())):
  (k=1->∀ g a j e,AHO ((n,(ts,())),f,())=some (g,a,j,e,())->Gh n ts b c x w (if e=0 then .inl (g,a,w64 (b+1),w64 (c+w64 (m+q)),0,j,[],())else .inr ([e],()))) /\
  (k=2->∀ g a l e,qS ((n,(ts,())),f,())=some ((g,(a,())),l,e,())->Gh n ts b c x w (if e=0 then .inl (g,a,w64 (b+1),w64 (c+w64 (m+q)),0,(f.length:Int),[],())else .inr ([e],()))) /\
  (k=3->∀ l e,NV ((n,(ts,())),d,())=some (l,e,())->Gh n ts b c x w (if e=0 then .inl (n,ts,w64 (b+1),w64 (c+w64 (m+q)),0,0,l,())else .inr ([e],()))):=by
 unfold Gh;rw[mu];obtain⟨u,v,y,⟨⟩⟩:=x;obtain⟨z,A,⟨B,C,D,⟨⟩⟩,⟨⟩⟩:=w;rw[SU];have r:w64 ((A2 f)+(A2 d))=((f.length+d.length:Nat):Int):=by rw[A6,A6,wrap_add (by omega)]
 simp only[o,Hs,AWf,r];simp only[p,Hs,AWf,BB];refine⟨?_,?_,?_⟩;rintro rfl g a j e h;simp only[AWG,h,Hs];by_cases i:e=0;grind;simp only[AV9 i,R0];rintro rfl g a l e h;simp only[show decide ((2:Int)=1)=false from rfl,AWG,h,Hs,A6];by_cases i:e=0;grind;simp only[AV9 i,R0];rintro rfl l e h;simp only[show decide ((3:Int)=1)=false from rfl,show decide ((3:Int)=2)=false from rfl,AWG,h,Hs];by_cases i:e=0;grind;simp only[AV9 i,R0]
end
theorem zW(m:Nat)(p:Int×Int×List (List Int)×Unit):∃ (U:List Int) (q e:Int),DE ((m:Int),p,())=some (U,q,e,()):=by by_cases h:(m:Int)<=1000/\HN p;obtain⟨U,k,_,_,_,a⟩:=Qx (n:=m) (by omega) h.2;grind;exact⟨_,_,_,bo (fun q=>h q.2)⟩
theorem ANv{N:Nat}{a:List Tie}(h:RG2 N a)(b c:Int)(x:Fh)(w:Km):(∃ e,e≠0/\Gh (N:Int) a b c x w (.inr ([e],()))) \/
  ∃ t d b' c' u l,Gh (N:Int) a b c x w (.inl (t,d,b',c',0,u,l,()))/\d.length<=400/\l.length<=4096:=by
 have H:=h.ht;by_cases n:WR x
 ·by_cases y:∃ v∈ES x,(N:Int)<=v;exact .inl ⟨10,by omega,S5 (AAb h n y) (by omega)⟩
  ·have o:∀ v∈ES x,v<(N:Int):=fun v C=>Int.not_le.1 fun q=>y ⟨v,C,q⟩;obtain⟨I,J,_⟩:=jY n
   have fin:∀ {k:Int} {i:List Edge} {f:List Gk} {m:Int},Jw (((N:Int),(a,())),x,w,())=some (k,i,f,m,0,())->i.length<=4096->f.length<=4096->(k=1\/k=2\/k=3)->(∃ e,e≠0/\Gh (N:Int) a b c x w (.inr ([e],()))) \/
     ∃ t d b' c' u l,Gh (N:Int) a b c x w (.inl (t,d,b',c',0,u,l,()))/\d.length<=400/\l.length<=4096:=by
    intro k i f m g K L j
    obtain⟨U,q,e,z⟩:=zW (i.length+f.length) w.2.2.1
    by_cases r:e=0
    ·subst r
     obtain⟨D,M,P⟩:=ASD (b:=b) (c:=c) g (by omega) (by omega) z
     rcases j with rfl|rfl|rfl
     ·rcases ANN h i (by omega)with⟨e,r,s⟩|⟨_,A,s⟩
      ·grind
      ·have:=D rfl _ _ _ _ s
       rw[AWB rfl]at this
       refine .inr ⟨_,_,_,_,_,_,this,?_,by simp⟩
       have E:=(bZ N a i).length_eq
       have Q:=mQ (DA N a i) (trs a a.length)
       simp only[R_,AWF,AWQ,AWJ]at E
       omega
     ·obtain⟨O,l,e,s,R,_⟩:=AFG (N:Int) a h.ht i (by omega)
      grind
     ·obtain⟨l,e,s,F⟩:=kL h f (by omega)
      grind
    ·exact .inl ⟨e,r,AHy g (by omega) (by omega) z r⟩
   have j:x.1=3\/x.1=1\/x.1=2:=by
    rcases n with⟨q|q,_⟩|⟨q,_⟩
    all_goals omega
   rcases j with j|j;exact fin (AAc h n o j) (by simp) (by omega) (.inr (.inr rfl));have g:=tc (w:=w) h n o j;by_cases B:Pp w;rw[AWB B]at g;by_cases p:x.1=2;rw[AWB p]at g;exact fin g (iH N h.hN a _) (by simp) (.inr (.inl rfl));rw[AV9 p]at g;by_cases G:400-a.length<(DA N a x.2.1).length;rw[AWB G]at g;exact .inl ⟨2,by omega,S5 g (by omega)⟩;grind;rw[AV9 B]at g;exact .inl ⟨1,by omega,S5 g (by omega)⟩
 exact .inl ⟨1,by omega,S5 (AIU (w:=w) (by omega) (fun q=>n q.2)) (by omega)⟩
abbrev RdK(α:Type):=(α×Nat)⊕(Int×Int)
def kR(a hi:Int)(b:List Int)(i:Nat):RdK Int:=if i=b.length then .inr ((i:Int),7)else if a<=b.getD i 0/\b.getD i 0<=hi then .inl (b.getD i 0,i+1)else .inr ((i:Int),8)
def nR(b:List Int)(i:Nat):RdK Int:=if i+2<=b.length then .inl (num b i,i+2)else .inr ((b.length:Int),7)
def uvR(b:List Int)(q:Int)(j:Nat):RdK (Int×Int×Int×Unit):=if j+4<=b.length then .inl ((q,num b j,num b (j+2),()),j+4)else .inr ((b.length:Int),7)
def itR(k:Int)(b:List Int)(i:Nat):RdK (Int×Int×Int×Unit):=if k=3 then match kR 1 4 b i with
  |.inr e=>.inr e
  |.inl p=>uvR b p.1 p.2
 else uvR b 0 i
def ez(k:Int)(x:Int×Int×Int×Unit)(a:List Edge×List Gk):List Edge×List Gk:=if k=3 then(a.1,a.2++[x])else(a.1++[x.2],a.2)
def JU(k:Int)(b:List Int):Nat->Nat->List Edge×List Gk->RdK (List Edge×List Gk)
 |0,i,a=>.inl (a,i)
 |m+1,i,a=>match itR k b i with
  |.inr e=>.inr e
  |.inl p=>JU k b m p.2 (ez k p.1 a)
def J5(b:List Int)(i:Nat):RdK Fh:=match kR 1 3 b i with
 |.inr e=>.inr e
 |.inl p=>match nR b p.2 with
  |.inr e=>.inr e
  |.inl q=>if 60<q.1 then .inr ((p.2:Int),9)else match JU p.1 b q.1.toNat q.2 ([],[])with
   |.inr e=>.inr e
   |.inl r=>.inl ((p.1,(r.1.1,(r.1.2,()))),r.2)
def shR{α:Type}(d:Nat):RdK α->RdK α
 |.inl p=>.inl (p.1,d+p.2)
 |.inr e=>.inr ((d:Int)+e.1,e.2)
section
variable (A B:List Int)
theorem AR0(i:Nat):(A++B).getD (A.length+i) 0=B.getD i 0:=by grind
theorem lF(i:Nat):num (A++B) (A.length+i)=num B i:=by unfold num;grind
theorem ASy(a hi:Int)(i:Nat):kR a hi (A++B) (A.length+i)=shR A.length (kR a hi B i):=by unfold kR;rw[AR0,AWF];by_cases h:i=B.length;rw[AWB (by omega),AWB h];simp[shR];rw[AV9 (by omega),AV9 h];split;rfl;simp[shR]
theorem AVI(i:Nat):nR (A++B) (A.length+i)=shR A.length (nR B i):=by unfold nR;rw[lF,AWF];by_cases h:i+2<=B.length;rw[AWB (by omega),AWB h];rfl;rw[AV9 (by omega),AV9 h];simp[shR]
theorem AJG(q:Int)(i:Nat):uvR (A++B) q (A.length+i)=shR A.length (uvR B q i):=by unfold uvR;rw[show A.length+i+2=A.length+(i+2) by omega,lF,lF,AWF];by_cases h:i+4<=B.length;rw[AWB (by omega),AWB h];rfl;rw[AV9 (by omega),AV9 h];simp[shR]
theorem AT4(k:Int)(i:Nat):itR k (A++B) (A.length+i)=shR A.length (itR k B i):=by
 unfold itR;by_cases h:k=3;rw[AWB h,AWB h,ASy];cases kR 1 4 B i with
  |inr e=>rfl
  |inl p=>exact AJG A B p.1 p.2
 rw[AV9 h,AV9 h];exact AJG A B 0 i
theorem ARC(k:Int):∀ (m i:Nat) (a:List Edge×List Gk),JU k (A++B) m (A.length+i) a=shR A.length (JU k B m i a):=by
 intro m;induction m with
  |zero=>intro i a;rfl
  |succ m b=>
   intro i a;rw[JU,JU,AT4];cases itR k B i with
    |inr e=>rfl
    |inl p=>exact b p.2 _
theorem m7(i:Nat):J5 (A++B) (A.length+i)=shR A.length (J5 B i):=by
 unfold J5;rw[ASy];cases kR 1 3 B i with
  |inr e=>rfl
  |inl p=>
   simp only[shR,AVI];cases nR B p.2 with
    |inr e=>rfl
    |inl q=>
     simp only[shR];by_cases h:60<q.1;grind;rw[AV9 h,AV9 h,ARC];cases JU p.1 B q.1.toNat q.2 ([],[])with
      |inr e=>rfl
      |inl r=>rfl
theorem yM{i:Nat}(h:i+2<=A.length):num (A++B) i=num A i:=by unfold num;grind
variable {A}
theorem AMd{a hi:Int}{i:Nat}(b:i<=A.length){p}(h:kR a hi A i = .inl p):kR a hi (A++B) i = .inl p/\p.2=i+1/\p.2<=A.length:=by unfold kR at *;grind
theorem ASw{i:Nat}{p}(h:nR A i = .inl p):nR (A++B) i = .inl p/\p.2=i+2/\p.2<=A.length:=by unfold nR at *;split at h;cases h;rename_i q;rw[AWB (by grind),yM A B q];grind;grind
theorem AJH{q:Int}{i:Nat}{p}(h:uvR A q i = .inl p):uvR (A++B) q i = .inl p/\p.2=i+4/\p.2<=A.length:=by unfold uvR at *;split at h;cases h;rename_i q;rw[AWB (by grind),yM A B (by omega),yM A B (by omega)];grind;grind
theorem lX{k:Int}{i:Nat}(hi:i<=A.length){p}(h:itR k A i = .inl p):itR k (A++B) i = .inl p/\i<p.2/\p.2<=A.length:=by
 unfold itR at *;by_cases a:k=3;rw[AWB a]at h |-;cases b:kR 1 4 A i with
  |inr e=>grind
  |inl q=>rw[b]at h;obtain⟨g,j,l⟩:=AMd B hi b;obtain⟨c,d,f⟩:=AJH B h;grind
 rw[AV9 a]at h |-;obtain⟨c,d,f⟩:=AJH B h;grind
theorem ARD{k:Int}:∀ (m i:Nat) (a:List Edge×List Gk) {p},i<=A.length->JU k A m i a = .inl p->JU k (A++B) m i a = .inl p/\i<=p.2/\p.2<=A.length:=by
 intro m;induction m with
  |zero=>intro i a p hi h;cases h;exact⟨rfl,AV8 _,hi⟩
  |succ m c=>
   intro i a p hi h;rw[JU]at h |-;cases b:itR k A i with
    |inr e=>grind
    |inl q=>rw[b]at h;obtain⟨d,f,g⟩:=lX B hi b;grind
theorem YU{i:Nat}(hi:i<=A.length){x:Fh}{j:Nat}(h:J5 A i = .inl (x,j)):J5 (A++B) i = .inl (x,j)/\i+3<=j/\j<=A.length:=by
 unfold J5 at *;cases a:kR 1 3 A i with
  |inr e=>grind
  |inl p=>
   rw[a]at h;obtain⟨d,l,m⟩:=AMd B hi a;rw[d];simp only at h |-;cases b:nR A p.2 with
    |inr e=>grind
    |inl q=>
     rw[b]at h;obtain⟨f,n,g⟩:=ASw B b;rw[f];simp only at h |-;by_cases k:60<q.1;grind;rw[AV9 k]at h |-;cases c:JU p.1 A q.1.toNat q.2 ([],[])with
      |inr e=>grind
      |inl r=>rw[c]at h;obtain⟨o,s,t⟩:=ARD B q.1.toNat q.2 _ g c;grind
end
theorem ARE{k:Int}{b:List Int}{i:Nat}{e}(h:itR k b i = .inr e):e.2≠0:=by unfold itR kR uvR at h;grind
theorem AMe{k:Int}{b:List Int}:∀ (m i:Nat) (a:List Edge×List Gk) {e},JU k b m i a = .inr e->e.2≠0:=by
 intro m;induction m with
  |zero=>intro i a e h;cases h
  |succ m d=>
   intro i a e h;rw[JU]at h;cases c:itR k b i with
    |inr f=>rw[c]at h;cases h;exact ARE c
    |inl q=>grind
theorem cR{b:List Int}{i:Nat}{a e:Int}(h:J5 b i = .inr (a,e)):e≠0:=by
 unfold J5 at h;cases c:kR 1 3 b i with
  |inr p=>rw[c]at h;cases h;unfold kR at c;grind
  |inl p=>
   rw[c]at h;simp only at h;cases d:nR b p.2 with
    |inr q=>rw[d]at h;cases h;unfold nR at d;grind
    |inl q=>
     rw[d]at h;simp only at h;split at h;grind;cases f:JU p.1 b q.1.toNat q.2 ([],[])with
      |inr r=>rw[f]at h;cases h;exact AMe _ _ _ f
      |inl r=>grind
inductive Sm(b:List Int):Nat->List Fh->Int->Int->Prop
 |fin:Sm b b.length [] b.length 0
 |bad {i:Nat} {a e:Int}:i<b.length->J5 b i = .inr (a,e)->Sm b i [] a e
 |go {i j:Nat} {x:Fh} {xs:List Fh} {p e:Int}:i<b.length->J5 b i = .inl (x,j)->Sm b j xs p e->Sm b i (x::xs) p e
theorem Sm.tot(b:List Int):∀ (m i:Nat),b.length-i<=m->i<=b.length->∃ xs p e,Sm b i xs p e/\xs.length<=m:=by
 intro m;induction m with
  |zero=>
   intro i h hi;obtain rfl:i=b.length:=by omega
   exact⟨[],_,_,.fin,by simp⟩
  |succ m c=>
   intro i h hi;by_cases g:i=b.length;grind;cases hd:J5 b i with
    |inr e=>obtain⟨a,e⟩:=e;exact⟨[],_,_,.bad (by omega) hd,by simp⟩
    |inl p=>obtain⟨x,j⟩:=p;obtain⟨_,k,d⟩:=YU [] hi hd;obtain⟨xs,q,e,f,l⟩:=c j (by omega) d;exact⟨x::xs,q,e,.go (by omega) hd f,by grind⟩
theorem Sm.sh(A:List Int){B:List Int}{i:Nat}{xs:List Fh}{p e:Int}(h:Sm B i xs p e):Sm (A++B) (A.length+i) xs ((A.length:Int)+p) e:=by
 induction h with
  |fin=>have:=Sm.fin (b:=A++B);grind
  |bad c a=>exact .bad (by grind) (by rw[m7,a];rfl)
  |go c a _ d=>exact .go (by grind) (by rw[m7,a];rfl) d
theorem Sm.app{A B:List Int}{i:Nat}{xs:List Fh}{p e:Int}(h:Sm A i xs p e)(b:e=0){ys:List Fh}{q f:Int}(k:Sm B 0 ys q f):Sm (A++B) i (xs++ys) ((A.length:Int)+q) f:=by
 induction h with
  |fin=>exact k.sh A
  |bad c a=>exact absurd b (cR a)
  |go c a _ d=>obtain⟨g,j,l⟩:=YU B (by omega) a;exact .go (by grind) g (d b)
end Go.Pev.Pl
end
section
namespace Go.Pev
open Go.Proofs
noncomputable section
def AJC[Lk]:(List Int×Int×Unit)->Option ((Int×List Int×Int×Unit)⊕(List Int×Unit)):=fun(b,a,_)=>
 match(ieq a (A2 b))with
 |true=>some (.inr ([a,7],()))
 |false=>match idx b a with
  |none=>none
  |some c=>match wb1 ((w64 c),())with
   |none=>none
   |some (y1,_)=>match(!y1)with
    |true=>some (.inr ([a,8],()))
    |false=>some (.inl ((w64 c),b,(w64 (a+(1:Int))),()))
theorem ug:∀ v,AJC v=Cm 1 Tryz.prog RR.e RP Tryz.f220 F7 F6 Hh 239 [.i64,.i64] Kp v:=by intro _;kernel_rfl
def AJB[Lk]:(List Int×Int×Unit)->Option ((Int×List Int×Int×Unit)⊕(List Int×Unit)):=fun(b,a,_)=>
 match(ieq a (A2 b))with
 |true=>some (.inr ([a,7],()))
 |false=>match idx b a with
  |none=>none
  |some c=>match TZ ((w64 c),())with
   |none=>none
   |some (y1,_)=>match(!y1)with
    |true=>some (.inr ([a,8],()))
    |false=>some (.inl ((w64 c),b,(w64 (a+(1:Int))),()))
theorem uf:∀ v,AJB v=Cm 1 Tryz.prog OY RN Tryz.f220 Fz Fy Hg 239 [.i64,.i64] Ko v:=by intro _;kernel_rfl
def AO8[Lk]:(List Int×Int×Unit)->Option ((Int×List Int×Int×Unit)⊕(List Int×Unit)):=fun(a,b,_)=>
 match RJ (a,b,())with
 |none=>none
 |some (y0,y1,_)=>match(!y1)with
  |true=>some (.inr ([(A2 a),7],()))
  |false=>some (.inl (y0,a,(w64 (b+(2:Int))),()))
theorem ADL:∀ v,AO8 v=Cm 1 Tryz.prog OX Xn Tryz.f222 IP IN J6 239 [.i64,.i64] Oe v:=by intro _;kernel_rfl
def ABD[Lk](v:(List Int×Int×Unit)):Option ((Int×List Int×Int×Unit)⊕(List Int×Unit)):=M' v
def ABC[Lk](v:(List Int×Int×Unit)):Option ((Int×List Int×Int×Unit)⊕(List Int×Unit)):=M_ v
def TX[Lk](v:(List Int×Int×Unit)):Option ((Int×List Int×Int×Unit)⊕(List Int×Unit)):=Vz v
abbrev pvO(ns:List Int):Option (List Int):=gU 239 [.i64,.i64] (.panic [Cu (wm 239 [.i64,.i64] ns)])
def Gm[Lk]:(List Int×Int×Int×List (Int×Int×Unit)×List (Int×Int×Int×Unit)×Int×Int×Unit)->Option ((List Int×Int×Int×List (Int×Int×Unit)×List (Int×Int×Int×Unit)×Int×Int×Unit)⊕(((List Int×Int×Int×List (Int×Int×Unit)×List (Int×Int×Int×Unit)×Unit)⊕Unit)⊕(List Int×Unit))):=fun(d,e,a,b,c,f,g,_)=>
 match(ilt g f)with
 |true=>match(ieq a (3:Int))with
  |true=>match ABC (d,e,())with
   |none=>none
   |some r=>match r with
    |.inr (ns,_)=>match pvO ns with
     |some n=>some (.inr (.inr (n,())))
     |none=>none
    |.inl (y0,y1,y2,_)=>match TX (y1,y2,())with
     |none=>none
     |some r=>match r with
      |.inr (ns,_)=>match pvO ns with
       |some n=>some (.inr (.inr (n,())))
       |none=>none
      |.inl (z0,z1,z2,_)=>match TX (z1,z2,())with
       |none=>none
       |some r=>match r with
        |.inr (ns,_)=>match pvO ns with
         |some n=>some (.inr (.inr (n,())))
         |none=>none
        |.inl (u0,u1,u2,_)=>match(fits ((A2 c)+(A2 ([(y0,(z0,(u0,())))]:List (Int×Int×Int×Unit)))))with
         |true=>some (.inl (u1,u2,a,b,(BV c ([(y0,(z0,(u0,())))]:List (Int×Int×Int×Unit))),f,(w64 (g+(1:Int))),()))
         |false=>none
  |false=>match TX (d,e,())with
   |none=>none
   |some r=>match r with
    |.inr (ns,_)=>match pvO ns with
     |some n=>some (.inr (.inr (n,())))
     |none=>none
    |.inl (z0,z1,z2,_)=>match TX (z1,z2,())with
     |none=>none
     |some r=>match r with
      |.inr (ns,_)=>match pvO ns with
       |some n=>some (.inr (.inr (n,())))
       |none=>none
      |.inl (u0,u1,u2,_)=>match(fits ((A2 b)+(A2 ([(z0,(u0,()))]:List (Int×Int×Unit)))))with
       |true=>some (.inl (u1,u2,a,(BV b ([(z0,(u0,()))]:List (Int×Int×Unit))),c,f,(w64 (g+(1:Int))),()))
       |false=>none
 |false=>some (.inr (.inl (.inl (d,e,a,b,c,()))))
def oX[Lk]:(List Int×Int×Unit)->Option (((Int×List (Int×Int×Unit)×List (Int×Int×Int×Unit)×Unit)×List Int×Int×Unit)⊕(List Int×Unit)):=fun(a,b,_)=>
 match ABD (a,b,())with
 |none=>none
 |some r=>match r with
  |.inr (ns,_)=>match pvO ns with
   |some n=>some (.inr (n,()))
   |none=>none
  |.inl (y0,y1,y2,_)=>match TX (y1,y2,())with
   |none=>none
   |some r=>match r with
    |.inr (ns,_)=>match pvO ns with
     |some n=>some (.inr (n,()))
     |none=>none
    |.inl (z0,z1,z2,_)=>match(ilt (60:Int) z0)with
     |true=>some (.inr ([y2,9],()))
     |false=>match A8 Gm many (z1,z2,y0,[],[],z0,(0:Int),())with
      |none=>none
      |some r=>match r with
       |.inl r=>match r with
        |.inl (o0,o1,o2,o3,o4,_)=>some (.inl ((o2,(o3,(o4,()))),o0,o1,()))
        |.inr _=>none
       |.inr (ns,_)=>match pvO ns with
        |some n=>some (.inr (n,()))
        |none=>none
theorem ui:∀ v,oX v=Cm 1 Tryz.prog Mt Yj Tryz.f157 F9 F8 Hi 239 [.i64,.i64] Kq v:=by intro _;kernel_rfl
def ABE[Lk](v:(List Int×Int×Unit)):Option (((Int×List (Int×Int×Unit)×List (Int×Int×Int×Unit)×Unit)×List Int×Int×Unit)⊕(List Int×Unit)):=NB v
def Gn[Lk]:(Int×Int×List Int×Int×List Int×List (Int×List (Int×Int×Unit)×List (Int×Int×Int×Unit)×Unit)×Unit)->Option ((Int×Int×List Int×Int×List Int×List (Int×List (Int×Int×Unit)×List (Int×Int×Int×Unit)×Unit)×Unit)⊕(((Int×Int×List Int×Int×List Int×List (Int×List (Int×Int×Unit)×List (Int×Int×Int×Unit)×Unit)×Unit)⊕Unit)⊕(List Int×(Int×Int×List (Int×List (Int×Int×Unit)×List (Int×Int×Int×Unit)×Unit)×Unit)))):=fun(b,c,f,d,e,a,_)=>
 match(ilt d (A2 e))with
 |true=>match ABE (f,d,())with
  |none=>none
  |some r=>match r with
   |.inr (ns,_)=>match pvO ns with
    |some n=>some (.inr (.inr (n,(b,c,a,()))))
    |none=>none
   |.inl (y0,y1,y2,_)=>match(fits ((A2 a)+(A2 ([(y0.1,(y0.2.1,(y0.2.2.1,())))]:List (Int×List (Int×Int×Unit)×List (Int×Int×Int×Unit)×Unit)))))with
    |true=>some (.inl (b,c,y1,y2,e,(BV a ([(y0.1,(y0.2.1,(y0.2.2.1,())))]:List (Int×List (Int×Int×Unit)×List (Int×Int×Int×Unit)×Unit))),()))
    |false=>none
 |false=>some (.inr (.inl (.inl (b,c,f,d,e,a,()))))
def fI[Lk]:(List Int×Unit)->Option (List (Int×List (Int×Int×Unit)×List (Int×Int×Int×Unit)×Unit)×Int×Int×Unit):=fun(a,_)=>
 match A8 Gn many ((0:Int),(0:Int),a,(0:Int),a,[],())with
 |none=>none
 |some r=>match r with
  |.inl r=>match r with
   |.inl (_,_,_,o3,_,o5,_)=>match(!(ieq (0:Int) (0:Int)&&(ieq (0:Int) (0:Int)&&true)))with
    |true=>none
    |false=>some (o5,o3,0,())
   |.inr _=>none
  |.inr (ns,p0,p1,p2,_)=>match(!(ieq (ns.headD 0) (0:Int)&&(ieq (ns.tail.headD 0) (0:Int)&&true)))with
   |true=>some (p2,ns.headD 0,ns.tail.headD 0,())
   |false=>some (p2,p0,p1,())
theorem oc:∀ v,fI v=Nc Tryz.prog Lh Tryz.f77 1 Ip Io Kr {} Pu Pt Td 2 v:=by intro _;kernel_rfl
end
end Go.Pev
end
section
namespace Go.Pev.Pl
def J2{α β:Type}(b:List Int)(f:α->β):RdK α->(β×List Int×Int×Unit)⊕(List Int×Unit)
 |.inl p=>.inl (f p.1,b,(p.2:Int),())
 |.inr e=>.inr ([e.1,e.2],())
theorem IU(a e:Int):pvO [a,e]=some [a,e]:=by kernel_rfl
theorem APB(k:Int):wb1 (k,())=some (decide (1<=k/\k<=3),()):=by rw[AJE,AJF,BM];by_cases h:1<=k;rw[AV2 h,BM];simp[h];grind
section
variable {b:List Int} (hb:by8 b) (hl:b.length<1000000) {i:Nat} (hi:i<=b.length)
include hb hl hi
theorem ADV:ABD (b,(i:Int),())=some (J2 b id (kR 1 3 b i)):=by
 show M' (b,(i:Int),())=_;refine((Tb _).trans (ug _).symm).trans ?_;show(match(ieq (i:Int) (A2 b))with
 |true=>some (Sum.inr ([(i:Int),7],()))
 |false=>match idx b (i:Int)with
  |none=>none
  |some c=>match wb1 ((w64 c),())with
   |none=>none
   |some (y1,_)=>match(!y1)with
    |true=>some (Sum.inr ([(i:Int),8],()))
    |false=>some (Sum.inl ((w64 c),b,(w64 ((i:Int)+(1:Int))),())))=_
 unfold kR;rw[A6,O8];by_cases h:i=b.length;rw[AV2 h,AWB h];rfl;rw[AV1 h,AV9 h];have d:=FV hb i;simp only[C3 (xs:=b) 0 (show i<b.length by omega),BE (show -9223372036854775808<=b.getD i 0/\b.getD i 0<=9223372036854775807 by omega),APB];by_cases a:1<=b.getD i 0/\b.getD i 0<=3;rw[AV2 a,AWB a,A5 (by omega)];rfl;rw[AV1 a,AV9 a];rfl
theorem ADS:ABC (b,(i:Int),())=some (J2 b id (kR 1 4 b i)):=by
 show M_ (b,(i:Int),())=_;refine((Ta _).trans (uf _).symm).trans ?_;show(match(ieq (i:Int) (A2 b))with
 |true=>some (Sum.inr ([(i:Int),7],()))
 |false=>match idx b (i:Int)with
  |none=>none
  |some c=>match TZ ((w64 c),())with
   |none=>none
   |some (y1,_)=>match(!y1)with
    |true=>some (Sum.inr ([(i:Int),8],()))
    |false=>some (Sum.inl ((w64 c),b,(w64 ((i:Int)+(1:Int))),())))=_
 unfold kR;rw[A6,O8];by_cases h:i=b.length;rw[AV2 h,AWB h];rfl;rw[AV1 h,AV9 h];have d:=FV hb i;simp only[C3 (xs:=b) 0 (show i<b.length by omega),BE (show -9223372036854775808<=b.getD i 0/\b.getD i 0<=9223372036854775807 by omega),Yf];by_cases a:1<=b.getD i 0/\b.getD i 0<=4;rw[AV2 a,AWB a,A5 (by omega)];rfl;rw[AV1 a,AV9 a];rfl
theorem I9:TX (b,(i:Int),())=some (J2 b id (nR b i)):=by
 show Vz (b,(i:Int),())=_;refine((Yd _).trans (ADL _).symm).trans ?_;show(match RJ (b,(i:Int),())with
 |none=>none
 |some (y0,y1,_)=>match(!y1)with
  |true=>some (Sum.inr ([(A2 b),7],()))
  |false=>some (Sum.inl (y0,b,(w64 ((i:Int)+(2:Int))),())))=_
 rw[oO hb (by omega) i (by omega)];unfold nR;by_cases h:i+2<=b.length;rw[AWB h,AWB h,show((i:Int)+2)=((i+2:Nat):Int) by omega,BE (by omega)];rfl;rw[AV9 h,AV9 h];rfl
end
theorem AMc{a hi:Int}{b:List Int}{i:Nat}(h:i<=b.length){p}(q:kR a hi b i = .inl p):p.2<=b.length:=(AMd [] h q).2.2
theorem ASv{b:List Int}{i:Nat}{p}(q:nR b i = .inl p):p.2<=b.length:=(ASw [] q).2.2
section
variable {b:List Int} (hb:by8 b) (hl:b.length<1000000)
include hb hl
theorem oV{k:Int}{i:Nat}(hi:i<=b.length){a:List Edge×List Gk}(o:a.1.length<=1000)(r:a.2.length<=1000){m n:Nat}(g:m<n)(s:n<=1000):
  Gm (b,(i:Int),k,a.1,a.2,(n:Int),(m:Int),())=some (match itR k b i with
   |.inr e=>.inr (.inr ([e.1,e.2],()))
   |.inl p=>.inl (b,(p.2:Int),k,(ez k p.1 a).1,(ez k p.1 a).2,(n:Int),((m+1:Nat):Int),())):=by
 unfold Gm itR;dsimp only;rw[A3,AV2 g,BB];have fin:∀ (q:Int) (j:Nat),j<=b.length->∀ (X:(List Int×Int×Int×List Edge×List Gk×Int×Int×Unit)⊕((List Int×Int×Int×List Edge×List Gk×Unit)⊕Unit)⊕(List Int×Unit)),True:=fun _ _ _ _=>trivial;clear fin;by_cases f:k=3;subst f;rw[AWB rfl];simp only[AWG,ADS hb hl hi];cases h:kR 1 4 b i with
  |inr e=>simp only[J2,IU]
  |inl p=>have l:=AMc hi h;simp only[J2,I9 hb hl l,id];unfold uvR nR;by_cases d:p.2+4<=b.length;rw[AWB d,AWB (show p.2+2<=b.length by omega)];simp only[J2,id,I9 hb hl (show p.2+2<=b.length by omega)];unfold nR;rw[AWB (show p.2+2+2<=b.length by omega)];simp only[J2,id];rw[Bo (by simp only[A6,AXE];omega),A5 (by omega)];rfl;rw[AV9 d];by_cases c:p.2+2<=b.length;rw[AWB c];simp only[J2,id,I9 hb hl c];unfold nR;rw[AV9 (show ¬ p.2+2+2<=b.length by omega)];simp only[J2,IU];rw[AV9 c];simp only[J2,IU]
 rw[AV9 f,AV1 f];simp only[I9 hb hl hi];unfold uvR nR;by_cases d:i+4<=b.length;rw[AWB d,AWB (show i+2<=b.length by omega)];simp only[J2,id,I9 hb hl (show i+2<=b.length by omega)];unfold nR;rw[AWB (show i+2+2<=b.length by omega)];simp only[J2,id];rw[Bo (by simp only[A6,AXE];omega),A5 (by omega)];unfold ez;rw[AV9 f];rfl;rw[AV9 d];by_cases c:i+2<=b.length;rw[AWB c];simp only[J2,id,I9 hb hl c];unfold nR;rw[AV9 (show ¬ i+2+2<=b.length by omega)];simp only[J2,IU];rw[AV9 c];simp only[J2,IU]
omit hb hl in
theorem uM(k:Int)(x:Int×Int×Int×Unit)(a:List Edge×List Gk):(ez k x a).1.length<=a.1.length+1/\(ez k x a).2.length<=a.2.length+1:=by unfold ez;grind
theorem oW{k:Int}{n:Nat}(l:n<=60):∀ (m i:Nat) (a:List Edge×List Gk) (cnt:Nat),m<=n->i<=b.length->m<cnt->a.1.length+m<=100->a.2.length+m<=100 ->
  BC Gm cnt (b,(i:Int),k,a.1,a.2,(n:Int),((n-m:Nat):Int),())=some (match JU k b m i a with
   |.inr e=>.inr ([e.1,e.2],())
   |.inl r=>.inl (.inl (b,(r.2:Int),k,r.1.1,r.1.2,()))):=by
 intro m;induction m with
  |zero=>
   intro i a cnt d hi f g h;obtain⟨cnt,rfl⟩:∃ c,cnt=c+1:=⟨cnt-1,by omega⟩
   rw[BC];unfold Gm;dsimp only;rw[A3,AV1 (by omega)];rfl
  |succ m o=>
   intro i a cnt d hi f g h;obtain⟨cnt,rfl⟩:∃ c,cnt=c+1:=⟨cnt-1,by omega⟩
   rw[BC,oV hb hl hi (by omega) (by omega) (show n-(m+1)<n by omega) (by omega),JU];cases j:itR k b i with
    |inr e=>rfl
    |inl p=>obtain⟨_,_,q⟩:=lX [] hi j;obtain⟨s,t⟩:=uM k p.1 a;grind
theorem fH{i:Nat}(hi:i<=b.length):ABE (b,(i:Int),())=some (J2 b id (J5 b i)):=by
 show NB (b,(i:Int),())=_;refine((Tc _).trans (ui _).symm).trans ?_;unfold oX J5;dsimp only;simp only[ADV hb hl hi];cases m:kR 1 3 b i with
  |inr e=>simp only[J2,IU];rfl
  |inl p=>
   have g:=AMc hi m;simp only[J2,id,I9 hb hl g];cases d:nR b p.2 with
    |inr e=>simp only[J2,IU];rfl
    |inl q=>
     have h:=ASv d;simp only[J2,id];have o:0<=q.1:=by unfold nR at d;split at d;cases d;have:=FV hb p.2;have:=FV hb (p.2+1);unfold num;omega;grind
     by_cases f:60<q.1;rw[BD,AV2 f,AWB f];rw[BD,AV1 f,AV9 f];obtain⟨n,j⟩:=AV7 o;have a:=oW hb hl (k:=p.1) (n:=n) (by omega) n q.2 ([],[]) many (AV8 _) h (by simp only[many];omega) (by grind) (by grind);rw[AXT]at a;have c:A8 Gm many (b,(q.2:Int),p.1,[],[],q.1,(0:Int),())=_:=(AWy (fun z:Int=>A8 Gm many (b,(q.2:Int),p.1,[],[],z,(0:Int),())) j).trans ((BR _ _ _).trans a);have l:q.1.toNat=n:=by omega
     rw[l];simp only[c];cases JU p.1 b n q.2 ([],[])with
      |inr e=>simp only[IU];rfl
      |inl r=>rfl
theorem jd{i:Nat}{xs:List Fh}{p e:Int}(h:Sm b i xs p e):∀ (d:List Fh) (cnt:Nat),i<=b.length->xs.length<cnt->d.length+xs.length<=1000000 ->
  BC Gn cnt ((0:Int),(0:Int),b,(i:Int),b,d,())=some (if e=0 then .inl (.inl ((0:Int),(0:Int),b,p,b,d++xs,()))else .inr ([p,e],((0:Int),(0:Int),d++xs,()))):=by
 induction h with
  |fin=>
   intro d cnt _ f _;obtain⟨cnt,rfl⟩:∃ c,cnt=c+1:=⟨cnt-1,by omega⟩
   rw[BC];unfold Gn;dsimp only;rw[A6,A3,AV1 (by omega),AWB rfl,AWk]
  |@bad i a e h1 h2=>
   intro d cnt hi f _;obtain⟨cnt,rfl⟩:∃ c,cnt=c+1:=⟨cnt-1,by omega⟩
   rw[BC];unfold Gn;dsimp only;rw[A6,A3,AV2 h1];simp only[fH hb hl hi,h2,J2,IU];rw[AV9 (cR h2),AWk]
  |@go i j x xs p e h1 h2 _ ih=>
   intro d cnt hi f g;simp only[AWD]at f g;obtain⟨cnt,rfl⟩:∃ c,cnt=c+1:=⟨cnt-1,by omega⟩
   obtain⟨_,_,k⟩:=YU [] hi h2;have:=ih (d++[x]) cnt k (by omega) (by grind);rw[BC];unfold Gn;dsimp only;rw[A6,A3,AV2 h1];simp only[fH hb hl hi,h2,J2,id];rw[Bo (by simp only[A6,AXE];omega)];rw[AXX,AXq]at this;exact this
theorem Pv{xs:List Fh}{p e:Int}(h:Sm b 0 xs p e)(f:xs.length<=1000000):J7 (b,())=some (xs,p,e,()):=by refine((Yl _).trans (oc _).symm).trans ?_;have c:=jd hb hl h [] many (by omega) (by simp only[many];omega) (by grind);have d:A8 Gn many ((0:Int),(0:Int),b,(0:Int),b,[],())=_:=(BR _ _ _).trans c;unfold fI;dsimp only;rw[d];by_cases a:e=0;subst a;rw[AWB rfl];simp only[Dw,AXL,AV6,AWh];rfl;rw[AV9 a];simp only[AYK,AXj,BB,AV1 a,Bool.false_and,Bool.and_false,AWR,AWh];rfl
end
theorem Nm{b:List Int}(a:by8 b)(c:b.length<4611686018427387904)(i:Nat)(hi:i<4611686018427387904):Eg (b,(i:Int),())=some (if i+2<=b.length then(num b i,true,())else(0,false,())):=by rw[Wh,QW];simp only[A6];rw[BD,AV1 (by omega),BE (by omega),BM];by_cases h:i+2<=b.length;rw[AV1 (by omega),AWB h];have d:=FV a i;have e:=FV a (i+1);simp only[C3 0 (show i<b.length by omega)];rw[BE (n:=(i:Int)+1) (by omega),show((i:Int)+1)=((i+1:Nat):Int) by simp];simp only[C3 0 (show i+1<b.length by omega)];rw[BE (n:=b.getD i 0) (by omega),BE (n:=b.getD i 0*256) (by omega),BE (n:=b.getD (i+1) 0) (by omega),BE (by omega)];rfl;grind
theorem rl{a hi:Int}{b:List Int}{i:Nat}(h:i<=b.length){e}(q:kR a hi b i = .inr e):0<=e.1/\e.1<=(b.length:Int):=by unfold kR at q;grind
theorem AGv{k:Int}{b:List Int}{i:Nat}(h:i<=b.length){e}(q:itR k b i = .inr e):0<=e.1/\e.1<=(b.length:Int):=by
 unfold itR at q;split at q;cases a:kR 1 4 b i with
  |inr c=>rw[a]at q;cases q;exact rl h a
  |inl p=>rw[a]at q;unfold uvR at q;grind
 unfold uvR at q;grind
theorem zA{k:Int}{b:List Int}:∀ (m i:Nat) (a:List Edge×List Gk) {e},i<=b.length->JU k b m i a = .inr e->0<=e.1/\e.1<=(b.length:Int):=by
 intro m;induction m with
  |zero=>intro i a e _ h;cases h
  |succ m d=>
   intro i a e hi h;rw[JU]at h;cases c:itR k b i with
    |inr f=>rw[c]at h;cases h;exact AGv hi c
    |inl q=>rw[c]at h;exact d _ _ (lX [] hi c).2.2 h
theorem cQ{b:List Int}{e}(h:J5 b 0 = .inr e):0<=e.1/\e.1<=(b.length:Int):=by
 unfold J5 at h;cases a:kR 1 3 b 0 with
  |inr p=>rw[a]at h;cases h;exact rl (by omega) a
  |inl p=>
   have f:=AMc (by omega) a;rw[a]at h;simp only at h;cases c:nR b p.2 with
    |inr q=>rw[c]at h;cases h;unfold nR at c;grind
    |inl q=>
     rw[c]at h;simp only at h;split at h;grind;cases d:JU p.1 b q.1.toNat q.2 ([],[])with
      |inr r=>rw[d]at h;cases h;exact zA _ _ _ (ASv c) d
      |inl r=>grind
section
variable {b:List Int} (hb:by8 b) (hl:b.length<1000000)
include hb hl
theorem W2(i:Nat)(hi:i<=b.length+1):(∃ y z,Eg (b,(i:Int),())=some (y,z,())/\∃ u t,Eg (b,w64 ((i:Int)+2),())=some (u,t,())/\(if i+4<=b.length then t=true/\y=num b i/\u=num b (i+2)else t=false)):=by have a:=Nm hb (by omega) i (by omega);have c:=Nm hb (by omega) (i+2) (by omega);rw[show((i:Int)+2)=((i+2:Nat):Int) by omega,BE (by omega)];grind
theorem eV{k:Int}{i:Nat}(hi:i<=b.length){a:List Edge×List Gk}(r:a.1.length<=1000)(s:a.2.length<=1000){m n:Nat}(l:m<n)(v:n<=1000):
  Eo (b,(0:Int),k,a.1,a.2,(n:Int),(i:Int),(m:Int),())=some (match itR k b i with
   |.inr e=>.inr (.inl ((0:Int),e.1,e.2,()))
   |.inl p=>.inl (b,(0:Int),k,(ez k p.1 a).1,(ez k p.1 a).2,(n:Int),(p.2:Int),((m+1:Nat):Int),())):=by unfold Eo itR;dsimp only;rw[A3,AV2 l,BB];by_cases d:k=3;subst d;rw[AWB rfl,A6,O8];unfold kR;simp only[AWG];by_cases j:i=b.length;grind;rw[AV1 j,AV9 j];have w:=FV hb i;simp only[C3 (xs:=b) 0 (show i<b.length by omega),BE (show -9223372036854775808<=b.getD i 0/\b.getD i 0<=9223372036854775807 by omega),BD];by_cases o:b.getD i 0<1;grind;rw[AV1 o];by_cases q:4<b.getD i 0;grind;rw[AV1 q,AWB (by omega)];obtain⟨y,z,g,u,t,h,c⟩:=W2 hb hl (i+1) (by omega);rw[show w64 ((i:Int)+1)=((i+1:Nat):Int)from A5 (by omega)];simp only[g,h];unfold uvR;by_cases f:i+1+4<=b.length;rw[AWB f]at c |-;obtain⟨rfl,rfl,rfl⟩:=c;simp only[AV6,A6];rw[Bo (by grind),A5 (by omega),show(((i+1:Nat):Int)+4)=((i+1+4:Nat):Int) by omega,BE (by omega)];rfl;grind;rw[AV9 d,AV1 d];obtain⟨y,z,g,u,t,h,c⟩:=W2 hb hl i (by omega);simp only[g,h];unfold uvR;by_cases f:i+4<=b.length;rw[AWB f]at c |-;obtain⟨rfl,rfl,rfl⟩:=c;simp only[AV6,A6];rw[Bo (by grind),A5 (by omega),show((i:Int)+4)=((i+4:Nat):Int) by omega,BE (by omega)];unfold ez;rw[AV9 d];rfl;rw[AV9 f]at c |-;subst c;rfl
theorem eW{k:Int}{n:Nat}(l:n<=60):∀ (m i:Nat) (a:List Edge×List Gk) (cnt:Nat),m<=n->i<=b.length->m<cnt->a.1.length+m<=100->a.2.length+m<=100 ->
  BC Eo cnt (b,(0:Int),k,a.1,a.2,(n:Int),(i:Int),((n-m:Nat):Int),())=some (match JU k b m i a with
   |.inr e=>.inl ((0:Int),e.1,e.2,())
   |.inl r=>.inr (.inl ((0:Int),k,r.1.1,r.1.2,(r.2:Int),()))):=by
 intro m;induction m with
  |zero=>
   intro i a cnt d hi f g h;obtain⟨cnt,rfl⟩:∃ c,cnt=c+1:=⟨cnt-1,by omega⟩
   rw[BC];unfold Eo;dsimp only;rw[A3,AV1 (by omega)];rfl
  |succ m o=>
   intro i a cnt d hi f g h;obtain⟨cnt,rfl⟩:∃ c,cnt=c+1:=⟨cnt-1,by omega⟩
   rw[BC,eV hb hl hi (by omega) (by omega) (show n-(m+1)<n by omega) (by omega),JU];cases j:itR k b i with
    |inr e=>rfl
    |inl p=>obtain⟨_,_,q⟩:=lX [] hi j;obtain⟨s,t⟩:=uM k p.1 a;grind
def AAH:RdK Fh->Int×List Edge×List Gk×Int×Int×Unit
 |.inl p=>(p.1.1,p.1.2.1,p.1.2.2.1,(p.2:Int),0,())
 |.inr e=>(0,[],[],e.1,e.2,())
theorem W4:S8 (b,())=some (AAH (J5 b 0)):=by
 rw[W3,Q2];unfold J5 kR;simp only[A6,BB];by_cases p:b.length=0;rw[AV2 (by omega),AWB (by omega)];rfl;rw[AV1 (by omega),AV9 (by omega)];have q:=FV hb 0;simp only[show idx b (0:Int)=some (b.getD 0 0)from C3 (n:=0) 0 (by omega),BE (show -9223372036854775808<=b.getD 0 0/\b.getD 0 0<=9223372036854775807 by omega),BD];by_cases j:b.getD 0 0<1;rw[AV2 j,AV9 (by omega)];rfl;rw[AV1 j];by_cases l:3<b.getD 0 0;rw[AV2 l,AV9 (by omega)];rfl;rw[AV1 l,AWB (by omega)];have g:=Nm hb (by omega) 1 (by omega);have a:Eg (b,(1:Int),())=_:=g;simp only[a];unfold nR;by_cases m:1+2<=b.length;rw[AWB m,AWB (show 0+1+2<=b.length by omega)];simp only[AV6];have s:=FV hb 1;have t:=FV hb (1+1);have h:0<=num b 1:=by unfold num;omega
 by_cases f:60<num b 1;rw[AV2 f,AWB f];rfl;rw[AV1 f,AV9 f];obtain⟨n,o⟩:=AV7 h;have c:=eW hb hl (k:=b.getD 0 0) (n:=n) (by omega) n 3 ([],[]) many (AV8 _) (by omega) (by simp only[many];omega) (by grind) (by grind);rw[AXT]at c;have d:A8 Eo many (b,(0:Int),b.getD 0 0,[],[],num b 1,(3:Int),(0:Int),())=_:=(AWy (fun z:Int=>A8 Eo many (b,(0:Int),b.getD 0 0,[],[],z,(3:Int),(0:Int),())) o).trans ((BR _ _ _).trans c);have i:(num b 1).toNat=n:=by omega
 simp only[d,i];cases JU (b.getD 0 0) b n 3 ([],[])with
  |inr e=>rfl
  |inl r=>rfl
 rw[AV9 m,AV9 (show ¬ 0+1+2<=b.length by omega)];rfl
omit hl in
theorem tx(i:Nat):by8 (b.drop i):=fun x a=>hb x (AXi a)
theorem dU{i:Nat}{xs:List Fh}{p e:Int}(h:Sm b i xs p e):∀ (d:List Fh) (cnt:Nat),i<=b.length->xs.length<cnt->d.length+xs.length<=1000000 ->
  BC Ea cnt (b,d,(i:Int),())=some (if e=0 then .inr (.inl (d++xs,p,()))else .inl (d++xs,p,e,())):=by
 have hd:∀ i,i<=b.length->J5 b i=shR i (J5 (b.drop i) 0):=by intro i hi;have:=m7 (b.take i) (b.drop i) 0;simp_all
 have l:∀ i e,i<=b.length->J5 (b.drop i) 0 = .inr e->0<=e.1/\e.1<=(b.length:Int):=by intro i e hi k;have t:=cQ (b:=b.drop i) k;grind
 induction h with
  |fin=>
   intro d cnt _ m _;obtain⟨cnt,rfl⟩:∃ c,cnt=c+1:=⟨cnt-1,by omega⟩
   rw[BC];unfold Ea;dsimp only;rw[A6,A3,AV1 (by omega),AWB rfl,AWk]
  |@bad i a e h1 h2=>
   intro d cnt hi m _;obtain⟨cnt,rfl⟩:∃ c,cnt=c+1:=⟨cnt-1,by omega⟩
   rw[BC];unfold Ea;dsimp only;rw[A6,A3,AV2 h1];have g:=W4 (tx hb i) (by grind);have n:Ci b (i:Int) (b.length:Int)=some (b.drop i):=I' (by omega);have k:=cR h2;rw[hd i hi]at h2;cases f:J5 (b.drop i) 0 with
    |inl p=>rw[f]at h2;cases h2
    |inr p=>have o:=l i p hi f;rw[f]at h2 g;cases h2;simp only[n,g,AAH,BB,AV1 k,AWR];rw[AV9 k,AWk,BE (by omega)]
  |@go i j x xs p e h1 h2 _ ih=>
   intro d cnt hi m q;simp only[AWD]at m q;obtain⟨cnt,rfl⟩:∃ c,cnt=c+1:=⟨cnt-1,by omega⟩
   obtain⟨_,_,r⟩:=YU [] hi h2;have:=ih (d++[x]) cnt r (by omega) (by grind);have g:=W4 (tx hb i) (by grind);have n:Ci b (i:Int) (b.length:Int)=some (b.drop i):=I' (by omega);have s:Ea (b,d,(i:Int),())=some (.inl (b,d++[x],(j:Int),())):=by
    rw[hd i hi]at h2;cases f:J5 (b.drop i) 0 with
     |inr p=>rw[f]at h2;cases h2
     |inl p=>rw[f]at h2 g;cases h2;unfold Ea;dsimp only;rw[A6,A3,AV2 h1];simp only[n,g,AAH,BB,AWG,AV6];rw[Bo (by simp only[A6,AXE];omega),wrap_add (by omega)];rfl
   rw[BC,s];grind
theorem pM{xs:List Fh}{p e:Int}(h:Sm b 0 xs p e)(c:xs.length<=1000000):Rh (b,())=some (xs,p,e,()):=by rw[WK,P5];have a:=dU hb hl h [] many (by omega) (by simp only[many];omega) (by grind);have d:A8 Ea many (b,([]:List Fh),(0:Int),())=_:=(BR _ _ _).trans a;grind
end
def hgt(x:Nat):Nat:=(((List.range 7).find? fun j=>x.testBit j).map (· + 1)).getD 8
structure HO(H:List Int)(n:Nat):Prop where
 len:H.length=n
 pos:0<n
 top:n<=1000
 rng:∀ h∈H,1<=h/\h<=8
structure WO(w:List Int)(n:Nat):Prop where
 len:w.length=n
 rng:∀ x∈w,0<=x/\x<=1
def pre(w:List Int):Nat->Int
 |0=>0
 |j+1=>pre w j+w.getD j 0
open Tok
theorem AD9(x y:Tie):(ieq x.1 y.1&&(ieq x.2.1 y.2.1&&(ieq x.2.2.1 y.2.2.1&&((x.2.2.2.1==y.2.2.2.1)&&true))))=decide (x=y):=by obtain⟨a,b,c,d,⟨⟩⟩:=x;obtain⟨e,b',c',f,⟨⟩⟩:=y;simp only[BB];rw[AXa];simp only[AV5,AW2,AXZ,AWI,AYO]
theorem v8(n m:Int)(xs ys:List Tie)(u:xs.length<4611686018427387904):QB ((n,(xs,())),(m,(ys,())),())=some (decide (n=m/\xs=ys),()):=by
 rw[gD,ZY];simp only[bK];rw[BB];by_cases a:n=m;rw[AV2 a];simp only[AV6];by_cases b:xs.length=ys.length;rw[AV2 b]
 have e:=pe (step:=Iw) (fun i=>(n,xs,m,ys,(i:Int),())) xs.length (fun i => !decide (xs.getD i zT=ys.getD i zT)) (fun _=>.inl (false,())) (.inr (.inl ())) (by omega)
  (fun i hi=>by
   have o:xs[i]? = some xs[i]:=AWC hi
   have p:ys[i]? = some (ys[i]'(by omega)):=AWC (by omega)
   have q:xs.getD i zT=xs[i]:=by simp[hi]
   have r:ys.getD i zT=ys[i]'(by omega):=by simp[show i<ys.length by omega]
   rw[Iw,A6,A3,AV2 hi]
   simp only[A' o,A' p,AD9,q,r]
   rw[A5 (by omega)]
   by_cases g:xs[i]=ys[i]'(by omega)
   ·simp[g]
   ·simp[g])
  (by rw[Iw,A6,A3,AV1 (by omega)])
 rcases e with⟨k,l,c,_,s⟩|⟨l,c⟩
 have d:A8 Iw many (n,xs,m,ys,(0:Int),())=_:=s;simp only[AV6,d];rw[AV1];rintro⟨_,rfl⟩;simp at c;have f:A8 Iw many (n,xs,m,ys,(0:Int),())=_:=c;simp only[AV6,f];rw[AV2];exact⟨a,Me zT b fun j t=>by simpa using l j t⟩;rw[AV1 b];simp only[AWR];rw[AV1];rintro⟨_,rfl⟩;exact b rfl;rw[AV1 a];simp only[AWR];rw[AV1];exact fun h=>a h.1
section
variable (n:Int) (ts:List Tie)
end
section
variable (a0:Int) (a1:List Tie) (a2 a3 a4:Int) (a5:List (List Int)) (a6:Int) (a7:List (List Int)) (p q:List Edge)
end
abbrev Mr:=(Int×(List (Int×Int×Int×Bool×Unit))×Unit)×Int×Int×Unit
def tX(n:Int):Bool:=decide (0<=n)&&decide (n<=1099511627776)
theorem mF(n:Int):N1 (n,())=some (tX n,()):=by rw[Wo,Qs,BM,BM,tX];grind
theorem eX(n:Int):LV (n,())=some (tX n,()):=by rw[S_,OE,BM,BM,tX];grind
structure SR(N:Nat)(ts:List Tie)(b c:Int):Prop where
 g:RG2 N ts
 hb:tX b=true
 hc:tX c=true
theorem ZI(n:Int)(a:List Tie)(b c:Int)(d:a.length<4611686018427387904):
  (FA (((n,(a,())),(b,(c,()))),())=some (false,())/\IT (((n,(a,())),(b,(c,()))),())=some (false,())) \/
  ∃ N:Nat,n=(N:Int)/\SR N a b c/\FA (((n,(a,())),(b,(c,()))),())=some (true,())/\IT (((n,(a,())),(b,(c,()))),())=some (true,()):=by
 rw[iA,au,Zo,T4];simp only[mF,eX];rcases Ox n a d with⟨g,i⟩|⟨N,rfl,h⟩
 grind;simp only[h.r21,h.lr];cases e:tX b;simp;cases f:tX c;simp;right;exact⟨N,rfl,⟨h,e,f⟩,rfl,rfl⟩
section
variable {s:List Int} {n:Int} {zs:List (List Int)}
end
abbrev RD:=Int×Int×(List Int)×Unit
section
variable {l:List RD}
end
abbrev Bt8:=Int×(List (Int×Int×Unit))×(List (Int×Int×Int×Unit))×Unit
abbrev Wy8:=Int×Int×(Int×Int×(List (List Int))×Unit)×Unit
theorem JT{α β:Type}(f:Lk->α->β){a:α}{v:β}(h:f idI a=v):f lockI a=v:=by rw[aZ];exact h
inductive Rn(w:Wy8):Mr->List Bt8->Mr->List RD->Prop
 |nil (s:Mr):Rn w s [] s []
 |cons {s a t:Mr} {x:Bt8} {r:RD} {xs:List Bt8} {l:List RD}:D8 (s,x,w,())=some (a,r,())->Rn w a xs t l->Rn w s (x::xs) t (r::l)
theorem Rn.iter{w:Wy8}{s t:Mr}{c:List Bt8}{l:List RD}(h:Rn w s c t l):∀ (pre:List Bt8) (b:List RD) (e:Int) (m:Nat),c.length<m->b.length+c.length<1000000->pre.length+c.length<1000000 ->
  BC SV m (s.1.1,s.1.2.1,s.2.1,s.2.2.1,w.1,w.2.1,w.2.2.1.1,w.2.2.1.2.1,w.2.2.1.2.2.1,(0:Int),(0:Int),(0:Int),e,b,pre++c,A2 (pre++c),(pre.length:Int),())=some (.inl (t.1.1,t.1.2.1,t.2.1,t.2.2.1,0,0,0,e,b++l,())):=by
 induction h with
  |nil s=>
   intro pre b e m d _ _;obtain⟨k,rfl⟩:∃ k,m=k+1:=⟨m-1,by omega⟩
   rw[BC,SV,A6,A3,AV1 (by simp),AWk,AWk]
  |@cons s a t x r xs l ht _ ih=>
   intro pre b e m d g i;simp only[AWD]at d g i;obtain⟨k,rfl⟩:∃ k,m=k+1:=⟨m-1,by omega⟩
   have j:(pre++x::xs)[pre.length]? = some x:=by simp
   have f:=ih (pre++[x]) (b++[r]) e k (by omega) (by grind) (by grind);simp only[AXX,AXq,AWF,AXE]at f;obtain⟨⟨n,o,⟨⟩⟩,p,q,⟨⟩⟩:=s;obtain⟨u,v,⟨y,z,A,⟨⟩⟩,⟨⟩⟩:=w;obtain⟨B,C,D,⟨⟩⟩:=x;obtain⟨E,F,G,⟨⟩⟩:=r;rw[BC,SV,A6,A3,AV2 (by simp)];simp only[A' j,ht];rw[Bo (by simp only[A6,AXE];omega),A5 (by omega)];simp only[Dy,<- A6];exact f
theorem Rn.run{w:Wy8}{s t:Mr}{a:List Bt8}{l:List RD}(h:Rn w s a t l)(d:FA (s,())=some (true,())){b:List Int}{p e:Int}(f:J7 (b,())=some (a,p,e,()))(o:a.length<900000)(q:l.length<900000):
  lf (s,b,w,())=some (t,l++(if e=0 then []else [(e,((0:Int),([],())))]),e,()):=by have g:=h.iter [] [] e many (by simp only[many];omega) (by grind) (by grind);rw[lZ,ld];obtain⟨⟨i,j,⟨⟩⟩,k,m,⟨⟩⟩:=s;simp only[d,AV6,f];rw[BR];have n:BC SV many (i,j,k,m,w.1,w.2.1,w.2.2.1.1,w.2.2.1.2.1,w.2.2.1.2.2.1,(0:Int),(0:Int),(0:Int),e,([]:List RD),a,A2 a,(0:Int),())=_:=g;simp only[n,AWh];rw[BB];by_cases c:e=0;grind;rw[AV1 c,AV9 c];simp only[AWR];rw[Bo (by simp only[A6,AXE];omega)];rfl
theorem Rn.len{w:Wy8}{s t:Mr}{a:List Bt8}{l:List RD}(h:Rn w s a t l):l.length=a.length:=by
 induction h with
  |nil=>rfl
  |cons _ _ b=>simp[b]
theorem AOu:bT ((4:Int),())=some (((4,([],())),(0,(0,()))),0,()):=JT (fun i=>@bT i) (by kernel_rfl)
theorem AVZ:J7 (([(1:Int),(0:Int),(2:Int),(0:Int),(3:Int),(0:Int),(1:Int),(0:Int),(0:Int),(0:Int),(1:Int),(3:Int),(0:Int),(2:Int),(3:Int),(0:Int),(3:Int),(0:Int),(0:Int),(4:Int),(0:Int),(0:Int),(0:Int),(0:Int),(2:Int),(0:Int),(1:Int),(0:Int),(0:Int),(0:Int),(1:Int),(3:Int),(0:Int),(1:Int),(2:Int),(0:Int),(3:Int),(0:Int),(0:Int),(9:Int)]:List Int),())=some ([(1,([(3,(1,())),(0,(1,()))],([],()))),(3,([],([(3,(3,(0,()))),(4,(0,(0,())))],()))),(2,([(0,(1,()))],([],()))),(3,([],([(2,(3,(0,())))],())))],(39,(8,()))):=JT (fun i=>@J7 i) (by kernel_rfl)
theorem AVY:D8 ((((4:Int),(([]:List (Int×Int×Int×Bool×Unit)),())),((0:Int),((0:Int),()))),((1:Int),(([(3,(1,())),(0,(1,()))]:List (Int×Int×Unit)),(([]:List (Int×Int×Int×Unit)),()))),((8:Int),((2:Int),(((1:Int),((2:Int),(([[(0:Int),(0:Int)],[(1:Int),(0:Int)]]:List (List Int)),()))),()))),())=some (((4,([(0,(1,(0,(true,())))),(1,(3,(0,(true,()))))],())),(1,(16,()))),((0,(2,([],()))),())):=JT (fun i=>@D8 i) (by kernel_rfl)
theorem AVX:D8 ((((4:Int),(([(0,(1,(0,(true,())))),(1,(3,(0,(true,()))))]:List (Int×Int×Int×Bool×Unit)),())),((1:Int),((16:Int),()))),((3:Int),(([]:List (Int×Int×Unit)),(([(3,(3,(0,()))),(4,(0,(0,())))]:List (Int×Int×Int×Unit)),()))),((8:Int),((2:Int),(((1:Int),((2:Int),(([[(0:Int),(0:Int)],[(1:Int),(0:Int)]]:List (List Int)),()))),()))),())=some (((4,([(0,(1,(0,(true,())))),(1,(3,(0,(true,()))))],())),(2,(19,()))),((0,(0,([3,2],()))),())):=JT (fun i=>@D8 i) (by kernel_rfl)
theorem AVW:D8 ((((4:Int),(([(0,(1,(0,(true,())))),(1,(3,(0,(true,()))))]:List (Int×Int×Int×Bool×Unit)),())),((2:Int),((19:Int),()))),((2:Int),(([(0,(1,()))]:List (Int×Int×Unit)),(([]:List (Int×Int×Int×Unit)),()))),((8:Int),((2:Int),(((1:Int),((2:Int),(([[(0:Int),(0:Int)],[(1:Int),(0:Int)]]:List (List Int)),()))),()))),())=some (((4,([(1,(3,(0,(true,()))))],())),(3,(31,()))),((0,(1,([],()))),())):=JT (fun i=>@D8 i) (by kernel_rfl)
theorem AVV:D8 ((((4:Int),(([(1,(3,(0,(true,()))))]:List (Int×Int×Int×Bool×Unit)),())),((3:Int),((31:Int),()))),((3:Int),(([]:List (Int×Int×Unit)),(([(2,(3,(0,())))]:List (Int×Int×Int×Unit)),()))),((8:Int),((2:Int),(((1:Int),((2:Int),(([[(0:Int),(0:Int)],[(1:Int),(0:Int)]]:List (List Int)),()))),()))),())=some (((4,([(1,(3,(0,(true,()))))],())),(4,(32,()))),((0,(0,([1],()))),())):=JT (fun i=>@D8 i) (by kernel_rfl)
theorem AVU:D8 ((((4:Int),(([(1,(3,(0,(true,()))))]:List (Int×Int×Int×Bool×Unit)),())),((4:Int),((32:Int),()))),((2:Int),(([((4:Int),((0:Int),()))]:List (Int×Int×Unit)),(([]:List (Int×Int×Int×Unit)),()))),((8:Int),((2:Int),(((1:Int),((2:Int),(([[(0:Int),(0:Int)],[(1:Int),(0:Int)]]:List (List Int)),()))),()))),())=some (((4,([(1,(3,(0,(true,()))))],())),(4,(32,()))),((10,(0,([],()))),())):=JT (fun i=>@D8 i) (by kernel_rfl)
theorem AVT:SS ((((4:Int),(([(1,(3,(0,(true,()))))]:List (Int×Int×Int×Bool×Unit)),())),((4:Int),((32:Int),()))),([(1:Int),(2:Int)]:List Int),())=some ([([0],([1],([[0]],()))),([1,11,3,17],([2,2,2,2],([[1,1],[2,2],[3,3],[0,0]],()))),([2],([1],([[0]],())))],(0,())):=JT (fun i=>@SS i) (by kernel_rfl)
theorem AVa:av (([(0,(2,([],()))),(0,(0,([3,2],()))),(0,(1,([],()))),(0,(0,([1],()))),(8,(0,([],())))]:List (Int×Int×(List Int)×Unit)),())=some ([0,0,2,0,0,0,0,0,0,2,0,3,0,2,0,0,1,0,0,0,0,0,0,1,0,1,8,0,0,0,0],(0,())):=JT (fun i=>@av i) (by kernel_rfl)
theorem AVb:Rn ((8:Int),((2:Int),(((1:Int),((2:Int),(([[(0:Int),(0:Int)],[(1:Int),(0:Int)]]:List (List Int)),()))),()))) (((4:Int),(([]:List (Int×Int×Int×Bool×Unit)),())),((0:Int),((0:Int),()))) ([((1:Int),(([(3,(1,())),(0,(1,()))]:List (Int×Int×Unit)),(([]:List (Int×Int×Int×Unit)),()))),((3:Int),(([]:List (Int×Int×Unit)),(([(3,(3,(0,()))),(4,(0,(0,())))]:List (Int×Int×Int×Unit)),()))),((2:Int),(([(0,(1,()))]:List (Int×Int×Unit)),(([]:List (Int×Int×Int×Unit)),()))),((3:Int),(([]:List (Int×Int×Unit)),(([(2,(3,(0,())))]:List (Int×Int×Int×Unit)),())))]:List (Int×(List (Int×Int×Unit))×(List (Int×Int×Int×Unit))×Unit)) (((4:Int),(([(1,(3,(0,(true,()))))]:List (Int×Int×Int×Bool×Unit)),())),((4:Int),((32:Int),()))) [(0,(2,([],()))),(0,(0,([3,2],()))),(0,(1,([],()))),(0,(0,([1],())))]:=.cons AVY (.cons AVX (.cons AVW (.cons AVV (.nil _))))
theorem AVd:FA ((((4:Int),(([]:List (Int×Int×Int×Bool×Unit)),())),((0:Int),((0:Int),()))),())=some (true,()):=JT (fun i=>@FA i) (by kernel_rfl)
theorem AUp:lf ((((4:Int),(([]:List (Int×Int×Int×Bool×Unit)),())),((0:Int),((0:Int),()))),([(1:Int),(0:Int),(2:Int),(0:Int),(3:Int),(0:Int),(1:Int),(0:Int),(0:Int),(0:Int),(1:Int),(3:Int),(0:Int),(2:Int),(3:Int),(0:Int),(3:Int),(0:Int),(0:Int),(4:Int),(0:Int),(0:Int),(0:Int),(0:Int),(2:Int),(0:Int),(1:Int),(0:Int),(0:Int),(0:Int),(1:Int),(3:Int),(0:Int),(1:Int),(2:Int),(0:Int),(3:Int),(0:Int),(0:Int),(9:Int)]:List Int),((8:Int),((2:Int),(((1:Int),((2:Int),(([[(0:Int),(0:Int)],[(1:Int),(0:Int)]]:List (List Int)),()))),()))),())=some ((((4:Int),(([(1,(3,(0,(true,()))))]:List (Int×Int×Int×Bool×Unit)),())),((4:Int),((32:Int),()))),[(0,(2,([],()))),(0,(0,([3,2],()))),(0,(1,([],()))),(0,(0,([1],()))),(8,(0,([],())))],8,()):=AVb.run AVd AVZ (AWl rfl) (AWl rfl)
theorem AUr:dD (([(0,(2,([],()))),(0,(0,([3,2],()))),(0,(1,([],()))),(0,(0,([1],()))),(8,(0,([],())))]:List (Int×Int×(List Int)×Unit)),([(0,(2,([],()))),(0,(0,([3,2],()))),(0,(1,([],()))),(0,(0,([1],()))),(8,(0,([],())))]:List (Int×Int×(List Int)×Unit)),())=some (true,()):=JT (fun i=>@dD i) (by kernel_rfl)
theorem AUq:FA ((((4:Int),(([(1,(3,(0,(true,()))))]:List (Int×Int×Int×Bool×Unit)),())),((4:Int),((32:Int),()))),())=some (true,()):=JT (fun i=>@FA i) (by kernel_rfl)
theorem AVc:rp ((((4:Int),(([(1,(3,(0,(true,()))))]:List (Int×Int×Int×Bool×Unit)),())),((4:Int),((32:Int),()))),(((4:Int),(([(1,(3,(0,(true,()))))]:List (Int×Int×Int×Bool×Unit)),())),((4:Int),((32:Int),()))),())=some (true,()):=JT (fun i=>@rp i) (by kernel_rfl)
theorem AUn:QA (((10:Int),((0:Int),(([]:List Int),()))),((10:Int),((0:Int),(([]:List Int),()))),())=some (true,()):=JT (fun i=>@QA i) (by kernel_rfl)
theorem AUo:QB (((4:Int),(([(1,(3,(0,(true,()))))]:List (Int×Int×Int×Bool×Unit)),())),((4:Int),(([(1,(3,(0,(true,()))))]:List (Int×Int×Int×Bool×Unit)),())),())=some (true,()):=JT (fun i=>@QB i) (by kernel_rfl)
theorem AUm:oZ ()=some (8,2,1,2,[[0,0],[1,0]],()):=by rw[oY];rfl
theorem n9:TO ()=some (true,()):=by rw[dE,Vs];simp only[AOu,AUm,AUp,AVT,AVa,AUr,AUq,AUo,Cj,BD,A2];erw [AVU];simp only[AVc,AUn];rfl
def tkO(s:Mr):ue⊕(List Int×Unit)->Option (Mr×RD×Unit)
 |.inr (ns,_)=>some (s,(ns.headD 0,(0,([],()))),())
 |.inl (a0,a1,a2,a3,a4,a5,a6,_)=>some (((a0,(a1,())),(a2,(a3,()))),(a4,(a5,(a6,()))),())
theorem Y9{n:Int}{a:List Tie}{b c:Int}(d:FA (((n,(a,())),(b,(c,()))),())=some (true,()))(x:Fh)(w:Km){r:ue⊕(List Int×Unit)}(h:Gh n a b c x w r):
  D8 (((n,(a,())),(b,(c,()))),x,w,())=tkO ((n,(a,())),(b,(c,()))) r:=by refine((US _).trans (ak _).symm).trans ?_;unfold Gh at h;obtain⟨e,f,g,⟨⟩⟩:=x;obtain⟨i,j,⟨k,l,m,⟨⟩⟩,⟨⟩⟩:=w;unfold al;dsimp only;simp only[d,AV6];rw[h];cases r<;>rfl
theorem AEB{n:Int}{a:List Tie}{b c:Int}(d:FA (((n,(a,())),(b,(c,()))),())=some (false,()))(x:Fh)(w:Km):
  D8 (((n,(a,())),(b,(c,()))),x,w,())=some (((n,(a,())),(b,(c,()))),(1,(0,([],()))),()):=by refine((US _).trans (ak _).symm).trans ?_;unfold al;grind
def small(s:Mr):Prop:=s.1.2.1.length<=1000000
theorem AJn(s:Mr)(d:small s)(x:Fh)(w:Km):∃ (f:Mr) (r:RD),D8 (s,x,w,())=some (f,r,())/\small f/\r.2.2.1.length<=4096:=by
 obtain⟨⟨n,i,⟨⟩⟩,b,c,⟨⟩⟩:=s;have m:i.length<=1000000:=d;rcases ZI n i b c (by omega)with⟨a,_⟩|⟨N,rfl,h,a,_⟩
 exact⟨_,_,AEB a x w,d,by simp⟩;rcases ANv h.g b c x w with⟨e,_,hd⟩|⟨o,j,b',c',p,l,hd,q,k⟩
 exact⟨_,_,Y9 a x w hd,d,by simp⟩;exact⟨_,_,Y9 a x w hd,by unfold small;grind,k⟩
theorem AKg(w:Km):∀ (b:List Fh) (s:Mr),small s->∃ (t:Mr) (l:List RD),Rn w s b t l/\small t/\∀ r∈l,r.2.2.1.length<=4096:=by
 intro b;induction b with
  |nil=>exact fun s c=>⟨s,[],.nil s,c,by simp⟩
  |cons x xs d=>intro s c;obtain⟨a,r,e,f,i⟩:=AJn s c x w;obtain⟨t,l,g,h,j⟩:=d a f;exact⟨t,r::l,.cons e g,h,by grind⟩
theorem Rn.append{w:Km}{s t u:Mr}{xs ys:List Fh}{l m:List RD}(h:Rn w s xs t l)(k:Rn w t ys u m):Rn w s (xs++ys) u (l++m):=by
 induction h with
  |nil=>exact k
  |cons a _ b=>exact .cons a (b k)
theorem AA6(l:List RD)(g:l.length<=1000000)(h:∀ r∈l,r.2.2.1.length<=4096):dD (l,l,())=some (true,()):=by
 have e:=DS (step:=OV) (fun i (_:Unit)=>(l,l,(i:Int),())) l (fun _ a=>.inl a) (fun _=>.inr (.inl ())) (fun _ _=>True) (by omega)
  (fun i x a hi c _=>by
   refine⟨fun j b => ?_,fun r b=>(by cases b)⟩
   cases b
   refine⟨?_,trivial⟩
   have d:=v7 x x (by grind)
   obtain⟨k,m,n,⟨⟩⟩:=x
   rw[OV,A6,A3,AV2 hi]
   simp only[A' c,d,AWG,AV6]
   rw[A5 (by omega)])
  (fun a _=>by rw[OV,A6,A3,AV1 (by omega)]) () trivial
 rw[B' (fun _ (a:Unit)=>a)]at e;have f:A8 OV many (l,l,(0:Int),())=_:=e;rw[uK,n8];simp only[Dw,AV6,f]
theorem pk(s:Mr)(d:small s):kM (s,s,())=some (true,()):=by obtain⟨⟨n,a,⟨⟩⟩,b,c,⟨⟩⟩:=s;have e:a.length<=1000000:=d;have h:=v8 n n a a (by omega);rw[fx,ZW];simp only[h,and_self,AWG,Dw]
theorem AMi{s:Mr}(a:FA (s,())=some (false,()))(b:List Int)(w:Km):lf (s,b,w,())=some (s,[],1,()):=by obtain⟨⟨n,e,⟨⟩⟩,c,d,⟨⟩⟩:=s;rw[lZ,ld];grind
theorem zL(n:Int)(a:List Tie)(b c:Int)(w:Km):Sn (((n,(a,())),(b,(c,()))),w,())=some (true,())\/(Sn (((n,(a,())),(b,(c,()))),w,())=some (false,())/\a.length<=30):=by rw[ba,VC];simp only[A6,BD];by_cases d:(30:Int)<a.length;grind;·rw[AV1 d];by_cases e:(12:Int)<n;grind;·rw[AV1 e];cases decide ((60:Int)<w.2.2.1.2.2.1.length);all_goals grind
theorem dq(U:TO ()=some (true,()))(g:Mr)(cc:List Int×List Int×Unit)(w:Km){P Q:Prop}(_:P)(G:wfD (.prod (.slice (.int .u8)) (.prod (.slice (.int .u8)) .unit)) cc)(_:Q):Ej (g,cc,w,())=some (true,()):=by
 obtain⟨A,B,⟨⟩⟩:=cc;have j:by8 A:=G.1.2;have H:by8 B:=G.2.1.2;obtain⟨⟨n,k,⟨⟩⟩,b,c,⟨⟩⟩:=g;obtain⟨l,m,⟨o,p,q,⟨⟩⟩,⟨⟩⟩:=w;rw[Pa,MN];simp only[U,AV6];rcases zL n k b c (l,(m,((o,(p,(q,()))),())))with I|⟨I,g2⟩
 grind;simp only[I,A6,BD];by_cases V:(120:Int)<A.length;grind;rw[AV1 V];by_cases W:(120:Int)<B.length;grind;rw[AV1 W];obtain⟨X,pa,Y,s,na⟩:=Sm.tot A A.length 0 (by omega) (by omega);obtain⟨lb,pb,d,J,nb⟩:=Sm.tot B B.length 0 (by omega) (by omega);have Z:=pM j (by omega) s (by omega);simp only[Z,BB];by_cases f:¬ Y=0;grind;have f:=AX6.1 f;rw[AV2 f];subst f;have t:=Sm.app s rfl J;have u:by8 (A++B):=fun x e=>by rcases AWL.1 e with e|e;exact j x e;exact H x e
 have wa:=Pv j (by omega) s (by omega);have wb:=Pv H (by omega) J (by omega);have v:=Pv u (by grind) t (by grind);simp only[AV6,Dy,AWh,AWK];rw[Bo (by omega),Bo (by omega)];simp only[];rcases ZI n k b c (by omega)with⟨i,C⟩|⟨N,rfl,h,i,C⟩
 simp only[AMi i,C,AWR,AWG,AWK];rw[AV2 (show w64 (((0:Nat):Int)+((0:Nat):Int))=0 from by rw[BE (by omega)];rfl)];have hs:small (((N:Int),(k,())),(b,(c,()))):=by unfold small;grind
 obtain⟨y,m1,D,K,hm1⟩:=AKg (l,(m,((o,(p,(q,()))),()))) X _ hs;obtain⟨z,m2,E,hz,hm2⟩:=AKg (l,(m,((o,(p,(q,()))),()))) lb y K;have l1:=D.len;have l2:=E.len;have L:=D.run i wa (by omega) (by omega);have F:=(D.append E).run i v (by grind) (by grind);rw[AWB rfl,AWk]at L;simp only[F,L,C,AV6];obtain⟨⟨yn,O,⟨⟩⟩,yb,yc,⟨⟩⟩:=y;have hyt:O.length<=1000000:=K;rcases ZI yn O yb yc (by omega)with⟨R,S⟩|⟨M,rfl,hM,R,S⟩
 grind;have rb:=E.run R wb (by omega) (by omega);have ht:∀ r∈(if d=0 then []else [(d,((0:Int),(([]:List Int),())))]),r.2.2.1.length<=4096:=by simp
 have T:=AA6 (m1++(m2++(if d=0 then []else [(d,((0:Int),(([]:List Int),())))]))) (by
  grind) (fun r hr=>by
  grind)
 have htl:(if d=0 then([]:List RD)else [(d,((0:Int),(([]:List Int),())))]).length<=1:=by grind
 have a:=pk z hz;obtain⟨⟨zn,zt,⟨⟩⟩,zb,zc,⟨⟩⟩:=z;simp only[S,AV6,rb,AWG,a,AXX];rw[Bo (by omega),Bo (by grind)];grind
theorem XN(g:Mr)(cc:List Int×List Int×Unit)(w:Km){P Q:Prop}(a:P)(b:wfD (.prod (.slice (.int .u8)) (.prod (.slice (.int .u8)) .unit)) cc)(c:Q):Ej (g,cc,w,())=some (true,()):=dq n9 g cc w a b c
end Go.Pev.Pl
end
section
namespace Go.Pev
open Go.Proofs
noncomputable section
def tO:=Chn.g ⟨uV,uU⟩ ⟨33,0,0,1,0,none,BP,[(.ret,BI)],A7,[],[]⟩ LV Tryz.func33 S_
def AEo:=Chn.g tO ⟨8,0,0,1,0,none,rq,[(.ret,BI)],A7,[],[]⟩ IT Tryz.func8 Zo
def vB:=Chn.g AEo ⟨17,0,0,2,0,none,Y0,[(.ret,Yz)],BO,[(8,[[0],[0],[],[],[],[0],[0],[],[],[],[],[],[4],[],[],[],[],[21]])],[(0,ow,WD)]⟩ oy Tryz.func17 ox
def AEX:=Chn.g vB ⟨20,0,0,2,0,none,AEW,[(.ret,BI)],A7,[],[(0,vz,I3)]⟩ ABd Tryz.func20 v5
def AEu:=Chn.g AEX ⟨19,0,0,1,0,none,gO,[(.ret,Mf)],BO,[],[(0,wW,N_)]⟩ ABg Tryz.func19 wX
def ASh:=Chn.g AEu ⟨24,0,0,2,0,none,ASg,[(.ret,BI)],A7,[],[(0,AOt,I3)]⟩ dD Tryz.func24 uK
def AMw:=Chn.g ASh ⟨21,0,0,1,0,none,BP,[(.ret,AMv)],BO,[],[]⟩ bT Tryz.func21 AG8
def AT7:=Chn.g AMw ⟨22,0,0,3,0,none,AT6,[(.ret,AT5)],DH,[(9,[[18],[],[20],[],[7,22],[1]])],[(0,ARH,ARG)]⟩ lf Tryz.func22 lZ
def AMj:=Chn.g AT7 ⟨18,0,0,1,0,none,gO,[(.ret,Mf)],BO,[],[(0,AGx,N_)]⟩ av Tryz.func18 AGy
def AGs:=Chn.g AMj ⟨10,0,0,2,0,none,Y0,[(.ret,Yz)],BO,[],[(0,zC,WD)]⟩ SS Tryz.func10 zD
def ARF:=Chn.g AGs ⟨69,0,0,2,0,none,ACW,[(.ret,BI)],A7,[],[]⟩ rp Tryz.func69 AMh
def APE:=Chn.g ARF ⟨67,0,0,0,0,none,ABF,[(.ret,APD)],APC,[],[]⟩ oZ Tryz.func67 oY
def AHG:=Chn.g APE ⟨16,0,0,2,0,none,AHF,[(.ret,BI)],A7,[],[]⟩ Sn Tryz.func16 ba
def AIw:=Chn.g AHG ⟨15,0,0,0,0,none,ABF,[(.ret,BI)],A7,[(6,[[28],[],[],[],[],[48,50],[],[],[],[],[],[67],[69]]),(3,[[8],[],[],[10,12],[],[],[],[],[],[29]])],[]⟩ TO Tryz.func15 dE
def yL:=Chn.g AIw ⟨159,0,0,2,0,none,fD,[(.ret,nw)],BO,[],[]⟩ Eg Tryz.func159 Wh
def AAE:=Chn.g yL ⟨79,0,0,1,0,none,cP,[(.ret,AAD)],vK,[],[(0,tH,tG)]⟩ S8 Tryz.func79 W3
def vR:=Chn.g AAE ⟨26,0,0,1,0,none,cP,[(.ret,vQ)],DH,[],[(0,pL,pK)]⟩ Rh Tryz.func26 WK
def AKL:=Chn.g vR ⟨27,0,0,2,0,none,ACW,[(.ret,BI)],A7,[],[]⟩ kM Tryz.func27 fx
def lq:=Chn.g AKL ⟨6,0,0,3,0,none,MM,[(.ret,BI)],A7,[(8,[[0],[],[2],[2],[31],[2],[2],[33],[4],[34],[],[],[],[],[],[45]])],[]⟩ Ej Tryz.func6 Pa
end
end Go.Pev
end
section

end
