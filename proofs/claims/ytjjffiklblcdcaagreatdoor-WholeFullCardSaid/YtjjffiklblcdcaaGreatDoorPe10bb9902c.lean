/- A part of the proofs of this seat: NKB NKC T19a NKD T22a T21a T23a T23b T24a PlnC NKE NKF NKG NKH NU24a NU24b NU24c NU24d NU23a NU23b NU23c NU23d NU23e T24b NU24f NU24g NU24h NU24i NU24j NU24k NU24l NU24m NU24n PlnD NU21a NU21b NSIg NU23f NU23g PlnE NU23h NU23i NU23n W33a T05a T05b T05c CU26a CU26b CU26c CU26d CU26e CU26f T26a. -/
import Derived.Test.YtjjffiklblcdcaaGreatDoorPc910f5f6a3
import Derived.KernelRfl
set_option linter.unusedVariables false
set_option linter.unusedSimpArgs false
set_option linter.unusedSectionVars false
set_option maxRecDepth 100000
section
section
namespace Go.Pev.Pl
open Tok
theorem Pa{n u v:Int}(h:okT n (.arc u v)):okT n (.arc v u):=⟨h.2.1,h.1,Acd h.2.2⟩
end Go.Pev.Pl
end
section
namespace Go.Pev.Pl
open Tok
theorem AZV(n t:Int):TI n [t]↔In n t:=by
 constructor;rintro⟨L,a,c,d⟩;rcases d.leaf with⟨v,e⟩|⟨x,v,r,f⟩
 subst e;simp only[AbL,AcE,AbR,AdG]at a;rw[a];exact c (.ver v) (by simp);have g:=f.length;have i:=Abx List.length a;grind;intro h;exact⟨[.ver t],rfl,fun x b=>by simp at b;subst b;exact h,T.one t⟩
theorem AZW(n:Int):¬ TI n []:=by rintro⟨L,b,c,a⟩;have:=a.facts.1;simp_all
end Go.Pev.Pl
end
section
namespace Go.Pev.Pl
open Tok
def RG(n:Int)(xs:List Int):Prop:=Rt xs/\xs≠[]/\Pd xs=xs.headD 0/\TI n xs
def okR(n:Int):List Int->Int->List (List Int)->Prop
 |_,_,[]=>True
 |seen,last,l::ls=>RG n l/\last<l.headD 0/\(∀ t∈l,t<n->t∉seen)/\okR n (seen++l.filter (fun t=>decide (t<n))) (l.headD 0) ls
def RF(n:Int)(a:List (List Int)):Prop:=Sz n/\okR n [] (-1) a/\∀ v,0<=v->v<n->v∈a.flatten
noncomputable instance (n:Int) (rings:List (List Int)):Decidable (RF n rings):=Classical.propDecidable _
noncomputable instance (n:Int) (xs:List Int):Decidable (RG n xs):=Classical.propDecidable _
def MI(n:Int)(a:List (Int×Int))(seen:List Int):Prop:=∀ t,t<n->(A_ a t).getD (0:Int)=if t∈seen then 1 else 0
theorem mS(n:Int)(l:List Int)(R:l.length<1073741824)(z:List (List Int))(A:Int)(B:List (List Int))(C D:Int)(E:List Int)(F G:Int)(d:Bool)(f:List Int)(g h:Bool)(i:List Int)(j:Int)(o:List Int)(p:Int)(q:Bool)(r:Int)(s:List Int)(u v:Bool):
  ∀ (m k cnt:Nat) (a:List (Int×Int)) (seen:List Int),k+m=l.length->MI n a seen->(l.drop k).Nodup->m<cnt ->
  ((∀ t∈l.drop k,t<n->t∉seen)/\∃ b,BK Je cnt (n,z,a,A,B,C,D,E,F,G,d,f,g,h,i,j,o,p,q,r,s,u,v,l,(l.length:Int),(k:Int),()) =
    some (.inr (.inl (n,z,b,A,B,C,D,E,F,G,d,f,g,h,i,j,o,p,q,r,s,u,v,())))/\MI n b (seen++(l.drop k).filter (fun t=>decide (t<n)))) \/
  (¬ (∀ t∈l.drop k,t<n->t∉seen)/\BK Je cnt (n,z,a,A,B,C,D,E,F,G,d,f,g,h,i,j,o,p,q,r,s,u,v,l,(l.length:Int),(k:Int),())=some (.inl (false,()))):=by
 intro m;induction m with
  |zero=>
   intro k cnt a seen N x H O;obtain⟨cnt,rfl⟩:∃ c,cnt=c+1:=⟨cnt-1,by omega⟩
   have e:l.drop k=[]:=AdF (by omega);rw[e];refine .inl ⟨by simp,a,?_,by grind⟩;rw[BK,Je,A3,Aaq (by omega)]
  |succ m S=>
   intro k cnt a seen N x H O;obtain⟨cnt,rfl⟩:∃ c,cnt=c+1:=⟨cnt-1,by omega⟩
   have w:k<l.length:=by omega
   have e:l.drop k=l.getD k 0::l.drop (k+1):=by simp_all
   rw[BK,Je,A3,Aar w];simp only[Gp (0:Int) w];rw[e]at H |-;generalize l.getD k 0=t at *;rw[Abj]at H;rw[A6 (by omega),BF];by_cases I:t<n;rw[Aar I];have J:=x t I;simp only[J,BF];by_cases P:t∈seen;grind;rw[Aa2 P,Aaq (by omega)];simp only[];have Q:w64 ((0:Int)+1)=1:=by rw[BM (by omega)];rfl
   rw[Q];have K:MI n (BH a t 1) (seen++[t]):=by intro y L;rw[FM];by_cases M:y=t;simp[M];simp only[M,AbE,Aa7,AcJ,or_false];exact x y L
   grind;rw[Aaq I];simp only[];have K:MI n (BH a t (w64 (((A_ a t).getD (0:Int))+(1:Int)))) seen:=by intro y L;rw[FM,Aa2 (by omega)];exact x y L
   grind
theorem bW(n:Int)(a:List (List Int))(C:a.length<1073741824)(I:∀ l∈a,l.length<9223372036854775808/\∀ x∈l, -9223372036854775808<=x/\x<=9223372036854775807):
  ∀ (j:List (List Int)) (i cnt:Nat) (e:List (Int×Int)) (b:Int) (seen:List Int),a.drop i=j->i<=a.length->MI n e seen->j.length<cnt ->
  (okR n seen b j/\∃ f g,BK HM cnt (n,a,e,b,a,(a.length:Int),(i:Int),())=some (.inr (.inl (n,a,f,())))/\MI n f g/\∀ v,v∈g↔v∈seen\/(v<n/\v∈j.flatten)) \/
  (¬ okR n seen b j/\BK HM cnt (n,a,e,b,a,(a.length:Int),(i:Int),())=some (.inl (false,()))):=by
 have s:4294967296<many:=by simp only[many];omega
 intro j;induction j with
  |nil=>
   intro i cnt e b seen hd hi u D;obtain⟨cnt,rfl⟩:∃ c,cnt=c+1:=⟨cnt-1,by omega⟩
   have:a.length<=i:=by grind
   refine .inl ⟨trivial,e,seen,?_,u,by simp⟩;rw[BK,HM,A3,Aaq (by omega)]
  |cons l j J=>
   intro i cnt e b seen hd hi u D;simp only[Aa1]at D;obtain⟨cnt,rfl⟩:∃ c,cnt=c+1:=⟨cnt-1,by omega⟩
   have m:i<a.length:=by grind
   rw[Abl m]at hd;simp only[AbR]at hd;obtain⟨K,w⟩:=hd;have E:a[i]? = some l:=by grind
   have o:l∈a:=Aay E;obtain⟨F,z⟩:=I l o;rw[BK,HM,A3,Aar m,okR];simp only[BA E,BI];cases l with
    |nil=>rw[A7,Aar (by simp)];exact .inr ⟨fun h=>h.1.2.1 rfl,rfl⟩
    |cons x d=>
     rw[A7,Aaq (by grind)];have L:idx (x::d) (0:Int)=some x:=by rw[Ke];rfl
     simp only[L,AdV,BR];by_cases M:x<=b;grind
     ·rw[Aaq M];simp only[Sb];by_cases c2:Rt (x::d)
      ·rw[Aar c2];have F:(x::d).length<1073741824:=by have:=c2.1;omega
       simp only[Aav,uv (x::d) (by simp) (by omega)];by_cases q:Pd (x::d)=x
       ·rw[Aar q];simp only[Aav];rw[APg n (x::d) (by simp) (by omega) z c2.2.2 (fun y P=>by grind)];by_cases r:TI n (x::d)
        ·rw[Aar r];simp only[Aav,Bo];have A:RG n (x::d):=⟨c2,by simp,q,r⟩
         rcases mS n (x::d) F a x a (a.length:Int) (i:Int) (x::d) x b false (x::d) true false (x::d) (Pd (x::d)) (x::d) x false n (x::d) true false (x::d).length 0 many e seen (by omega) u (by rw[List.drop_zero];exact c2.2.2) (by omega)with⟨q1,f,q2,q3⟩|⟨q1,q2⟩
         ·rw[List.drop_zero]at q1 q3;have B:BK Je many (n,a,e,x,a,(a.length:Int),(i:Int),x::d,x,b,false,x::d,true,false,x::d,Pd (x::d),x::d,x,false,n,x::d,true,false,x::d,((x::d).length:Int),(0:Int),())=_:=q2;simp only[B,A6 (show i+1<9223372036854775808 by omega)];rcases J (i+1) cnt f x (seen++(x::d).filter (fun t=>decide (t<n))) w (by omega) q3 (by omega)with⟨G,p,k,H,N,O⟩|⟨G,H⟩
          ·refine .inl ⟨⟨A,by omega,q1,G⟩,p,k,H,N,fun v => ?_⟩;rw[O,Aa7,AbS,Adh,Aa7];simp only[Aat];constructor;all_goals grind
          grind
         grind
        rw[Aaq r];exact .inr ⟨fun h=>r h.1.2.2.2,rfl⟩
       rw[Aaq q];exact .inr ⟨fun h=>q h.1.2.2.1,rfl⟩
      rw[Aaq c2];exact .inr ⟨fun h=>c2 h.1.1,rfl⟩
theorem NU(n:Int)(a:List (List Int))(f:a.length<1073741824)(q:∀ l∈a,l.length<9223372036854775808/\∀ x∈l, -9223372036854775808<=x/\x<=9223372036854775807):
  KI ((n,(a,())),())=some (decide (RF n a),()):=by
 have j:4294967296<many:=by simp only[many];omega
 rw[jJ,bX];simp only[NT];by_cases g:Sz n;rw[Aar g];simp only[Aav,Bo,A7];rcases bW n a f q a 0 many [] (-1) [] (by simp) (by omega) (fun t _=>by simp[A_]) (by omega)with⟨m,b,seen,o,r,z⟩|⟨m,o⟩
 have c:BK HM many (n,a,[], -1,a,(a.length:Int),(0:Int),())=_:=o;simp only[c];obtain⟨s,u⟩:=g;obtain⟨N,rfl⟩:=Aaw (show 0<=n by omega)
 have e:=AXA (step:=Jd) (fun i=>(b,(N:Int),(i:Int),())) N (fun i=>decide ((i:Int)∉seen)) (fun _=>.inl (false,())) (.inr (.inl ())) (by omega)
  (fun i hi=>by
   have:=r (i:Int) (by omega)
   rw[Jd,A3,Aar hi]
   simp only[this,BI]
   by_cases h:(i:Int)∈seen
   ·simp only[h,Abc,not_true]
    rw[A6 (by omega)];simp
   grind)
  (by rw[Jd,A3,Aaq (by omega)])
 rw[Bo]at e;have A:∀ v,v∈seen↔(v<(N:Int)/\v∈a.flatten):=fun v=>by grind
 rcases e with⟨k,w,B,_,p⟩|⟨w,p⟩
 have d:BK Jd many (b,(N:Int),(0:Int),())=_:=p;rw[d,Aaq];rintro⟨_,_,h⟩;grind;have d:BK Jd many (b,(N:Int),(0:Int),())=_:=p;rw[d,Aar];refine⟨⟨s,u⟩,m,fun v y C => ?_⟩;obtain⟨k,rfl⟩:=Aaw y;grind;have c:BK HM many (n,a,[], -1,a,(a.length:Int),(0:Int),())=_:=o;simp only[c];rw[Aaq (fun h=>m h.2.1)];rw[Aaq g,Aaq (fun h=>g h.1)];rfl
end Go.Pev.Pl
end
section
namespace Go.Pev.Pl
open Tok
theorem Vz{n:Int}{l:List Int}(h:RG n l):In n (l.headD 0):=by
 obtain⟨c,d,a,b⟩:=h;cases l with
  |nil=>grind
  |cons x l=>exact AFL b a
theorem ATp{n:Int}(e:1<=n):∀ {b:List (List Int)} {seen:List Int} {a:Int},okR n seen a b->-1<=a->a<n->(b.length:Int)<=n-1-a:=by
 intro b;induction b with
  |nil=>grind
  |cons l b f=>intro seen a ⟨c,g,h,i⟩ j d;have k:=(Vz c).2.2;grind
end Go.Pev.Pl
end
section
namespace Go.Pev.Pl
open Tok
def hd(l:List Int):Int:=l.headD 0
def Dis(n:Int)(a b:List Int):Prop:=∀ t∈a,t<n->t∉b
structure FR(n:Int)(rings:List (List Int)):Prop where
 sz:Sz n
 rg:∀ l∈rings,RG n l
 up:rings.Pairwise (fun a b=>hd a<hd b)
 dis:rings.Pairwise (Dis n)
 cov:∀ v,In n v->∃ l∈rings,v∈l
theorem Dis.symm{n:Int}{a b:List Int}(h:Dis n a b):Dis n b a:=fun t c d e=>h t e d c
theorem AES{n:Int}:∀ {e:List (List Int)} {seen:List Int} {c:Int},okR n seen c e↔(∀ l∈e,RG n l/\c<hd l/\∀ t∈l,t<n->t∉seen)/\e.Pairwise (fun a b=>hd a<hd b)/\e.Pairwise (Dis n):=by
 intro e;induction e with
  |nil=>intro seen c;simp[okR]
  |cons l e r=>intro seen c;rw[okR,r,Abi,Abi];constructor;rintro⟨i,j,m,o,p,s⟩;refine⟨fun k d => ?_,⟨fun k d=>(o k d).2.1,p⟩,⟨fun k d t q f u => ?_,s⟩⟩;rcases AbD.1 d with rfl|d;exact⟨i,j,m⟩;grind;grind;rintro⟨i,⟨j,m⟩,⟨o,p⟩⟩;obtain⟨v,w,x⟩:=i l (by simp);refine⟨v,w,x,fun k d => ?_,m,p⟩;obtain⟨y,z,A⟩:=i k (by simp[d]);refine⟨y,j k d,fun t q f g => ?_⟩;simp only[Aa7,AbS]at g;rcases g with h|h;grind;exact o k d t h.1 f q
theorem YI{n:Int}{a:List (List Int)}:RF n a↔FR n a:=by constructor;rintro⟨c,d,e⟩;obtain⟨g,i,j⟩:=AES.1 d;refine⟨c,fun l b=>(g l b).1,i,j,fun v f => ?_⟩;obtain⟨l,b,h⟩:=List.mem_flatten.1 (e v f.2.2.1 f.2.2.2);grind;rintro⟨c,d,e,k,m⟩;refine⟨c,AES.2 ⟨fun l b=>⟨d l b,?_,by simp⟩,e,k⟩,fun v o p => ?_⟩;have:=(Vz (d l b)).2.2.1;show(-1:Int)<l.headD 0;omega;obtain⟨l,b,h⟩:=m v ⟨c.1,c.2,o,p⟩;exact List.mem_flatten.2 ⟨l,b,h⟩
theorem sI{ys c:List (List Int)}(d:c.Pairwise (fun a b=>hd a<hd b))(g:ys.Perm c)(k:ys.Pairwise (fun a b=>¬ hd b<hd a)):ys=c:=by
 have f:∀ a∈c,∀ b∈c,hd a=hd b->a=b:=by intro a l b m e;refine Ab6 fun n => ?_;obtain⟨i,hi,rfl⟩:=Ab1 l;obtain⟨j,o,rfl⟩:=Ab1 m;rw[Ab7]at d;grind
 refine Aco (le:=fun a b=>¬ hd b<hd a) ?_ k ?_ g;grind;exact d.imp fun h=>by omega
def plc(a:List (List Int))(v:Int):Int:=if a.any (fun l=>decide (v∈l))then((a.findIdx (fun l=>decide (v∈l)):Nat):Int)else -1
theorem SQ(n:Int)(a:List (List Int))(v:Int)(b:a.length<1073741824)(d:∀ l∈a,l.length<9223372036854775808):Wz ((n,(a,())),v,())=some (plc a v,()):=by
 rw[jK,bY,LN,Hl]
 have e:=HK (step:=Dp) (fun i=>(v,a,A2 a,(i:Int),())) a (fun l=>decide (v∈l)) (fun i=>.inl (v,(i:Int),())) (.inr (.inl (v,()))) (by omega)
  (fun i l hi c=>by
   have g:=d l (Aay c)
   rw[Dp,A7,A3,Aar hi]
   simp only[BA c,Ls l v (by omega)]
   rw[A6 (by omega)]
   grind)
  (by rw[Dp,A7,A3,Aaq (by omega)])
 have f:A' Dp many (v,a,A2 a,(0:Int),())=_:=e;simp only[f,plc];grind
theorem XO{a:List (List Int)}{v:Int}(h:∃ l∈a,v∈l):∃ k l,plc a v=((k:Nat):Int)/\a[k]? = some l/\v∈l/\k<a.length:=by obtain⟨l,c,e⟩:=h;have b:a.any (fun l=>decide (v∈l))=true:=Ads.2 ⟨l,c,by grind⟩;have d:a.findIdx (fun l=>decide (v∈l))<a.length:=AdH.2 ⟨l,c,by grind⟩;refine⟨_,a[a.findIdx (fun l=>decide (v∈l))],by rw[plc,Aa5 b],by simp,?_,d⟩;grind
theorem FR.uniq{n:Int}{c:List (List Int)}(h:FR n c){i j:Nat}{a b:List Int}{v:Int}(hi:c[i]? = some a)(m:c[j]? = some b)(f:v<n)(k:v∈a)(l:v∈b):i=j:=by obtain⟨d,rfl⟩:=AbC.1 hi;obtain⟨e,rfl⟩:=AbC.1 m;have hd:=Ab7.1 h.dis;rcases Nat.lt_trichotomy i j with g|g|g;exact absurd l (hd i j d e g v k f);exact g;exact absurd k (hd j i e d g v l f)
theorem FR.zg{n:Int}{b:List (List Int)}(h:FR n b){k:Nat}{a:List Int}{v:Int}(c:b[k]? = some a)(f:v<n)(d:v∈a):plc b v=(k:Int):=by obtain⟨j,l,e,g,i,_⟩:=XO ⟨a,Aay c,d⟩;rw[e,h.uniq g c f i d]
theorem eY{α:Type}{l:List α}{i:Nat}{a:α}(h:l[i]? = some a):l.Perm (a::l.eraseIdx i):=by
 obtain⟨hi,rfl⟩:=AbC.1 h;rw[List.eraseIdx_eq_take_drop_succ];conv=>lhs;rw[<- Abv i l,Abl hi]
 exact List.perm_middle
theorem Y4{α:Type}{l:List α}{i j:Nat}{a b:α}(c:i<j)(hi:l[i]? = some a)(d:l[j]? = some b):l.Perm (a::b::(l.eraseIdx j).eraseIdx i):=by
 have e:=eY d;have f:(l.eraseIdx j)[i]? = some a:=by grind
 exact e.trans (((eY f).cons b).trans (List.Perm.swap a b _))
theorem AH9{n:Int}{t:Tok}(h:okT n t):0<=Il n t/\Il n t<=4160/\Il n t<n*(n+1):=by
 cases t with
  |ver v=>obtain⟨a,b,c,d⟩:=h;have:n*1<=n*(n+1):=Int.mul_le_mul_of_nonneg_left (by omega) (by omega);simp only[Il];omega
  |arc u v=>
   obtain⟨a,b,_⟩:=h;obtain⟨f,g,_⟩:=aN a b;have i:=Nl (u:=n+1-1) a.1 a.2.1 (by have:=a.1;omega) (by have:=a.2.1;omega);have e:n*(n+1)=n*(n+1-1)+n:=by grind
   have:=a.1;have:=a.2.1;simp only[Il];omega
theorem AYW{n:Int}{t:Tok}(h:okT n t):Sz n:=by
 cases t with
  |ver v=>exact⟨h.1,h.2.1⟩
  |arc u v=>exact⟨h.1.1,h.1.2.1⟩
theorem SN:∀ {L:List Tok},L.Nodup->(O0 L).Nodup
 |[],_=>by simp[O0]
 |.ver v::L,h=>by rw[Abj]at h;rw[O0,Abj];exact⟨fun a=>h.1 (UD.1 a),SN h.2⟩
 |.arc _ _::L,h=>by rw[Abj]at h;rw[O0];exact SN h.2
theorem AXW{n:Int}{xs:List Int}(h:TI n xs):Rt xs:=by
 obtain⟨L,rfl,c,d⟩:=h;have i:=d.nodup;refine⟨?_,fun x f => ?_,?_⟩;obtain⟨v,r,j⟩:=d.wO;have l:Sz n:=AYW (c (.ver v) ((j.mem _).2 (by simp)));have q:=d.len;have s:=H_ (a:=O0 L) (b:=(List.range n.toNat).map (fun(k:Nat)=>(k:Int))) (SN i) fun x f=>by have:=c _ (UD.1 f);have u:=this.2.2;rw[AbA];exact⟨x.toNat,by grind,by omega⟩
 have w:=l.2;grind;obtain⟨t,m,rfl⟩:=AbA.1 f;have:=AH9 (c t m);omega;rw[List.Nodup,AcA];exact i.imp_of_mem fun o p g e=>g (VN (c _ o) (c _ p) e)
def AKx(a b:List Int):Prop:=∃ x y,a=x++y/\b=y++x
theorem AKx.perm{a b:List Int}(h:AKx a b):a.Perm b:=by obtain⟨x,y,rfl,rfl⟩:=h;grind
theorem ARL{n:Int}{a b:List Int}(h:TI n a)(r:AKx a b):TI n b:=by obtain⟨L,e,f,g⟩:=h;obtain⟨x,y,rfl,rfl⟩:=r;obtain⟨c,d,rfl,i,j⟩:=List.map_eq_append_iff.1 e.symm;refine⟨d++c,by grind,fun t k=>f t ?_,T.rot c d g⟩;grind
theorem Ev{xs:List Int}{t:Int}(h:t∈xs):AKx xs (DH xs t):=by obtain⟨a,b,c,_,d⟩:=cb h;exact⟨a,t::b,c,by rw[d]⟩
theorem AII{xs ys:List Int}(h:xs.Perm ys)(a:xs≠[]):Pd ys=Pd xs:=by obtain⟨b,c⟩:=Hf a;exact ATw (h.mem_iff.1 b) fun x d=>c x (h.mem_iff.2 d)
theorem zh{xs:List Int}(b:Rt xs)(a:xs≠[]):AKx xs (plain xs):=by rw[plain,Aa5 ⟨b,a⟩];exact Ev (Hf a).1
theorem AXV{n:Int}{xs:List Int}(h:TI n xs):xs≠[]:=by rintro rfl;exact AZW n h
theorem xL{n:Int}{xs:List Int}(h:TI n xs):RG n (plain xs)/\AKx xs (plain xs):=by have g:=AXW h;have c:=AXV h;have d:=zh g c;have f:=ARL h d;refine⟨⟨AXW f,AXV f,?_,f⟩,d⟩;rw[AII d.perm c];obtain⟨a,b,_,e⟩:=cy g c;grind
theorem xI{n:Int}{xs:List Int}(h:TI n xs){t:Tok}(e:okT n t)(d:Il n t∈xs):∃ a,DH xs (Il n t)=(t::a).map (Il n)/\T (t::a)/\(∀ y∈t::a,okT n y):=by
 have f:=ARL h (Ev d);obtain⟨a,b,j,k,g⟩:=cb d;obtain⟨L,c,i,l⟩:=f;rw[g,AbO]at c;cases L with
  |nil=>cases c
  |cons t' L=>simp only[AbL,AbR]at c;have:=VN e (i t' (by simp)) c.1;grind
end Go.Pev.Pl
end
section
namespace Go.Pev.Pl
open Go.RowKit Tok
theorem UQ(a:Int):ieq a a=true:=by rw[DF];simp
def Dom(a:List (List Int)):Prop:=a.length<1073741824/\∀ l∈a,l.length<9223372036854775808/\∀ x∈l, -9223372036854775808<=x/\x<=9223372036854775807
theorem FR.dom{n:Int}{a:List (List Int)}(h:FR n a):Dom a:=by have b:=YI.2 h;have e:=ATp h.sz.1 b.2.1 (by omega) (by have:=h.sz.1;omega);have f:=h.sz.2;refine⟨by omega,fun l c => ?_⟩;have:=(h.rg l c).1;exact⟨by have:=this.1;omega,fun x d=>by have:=this.2.1 x d;omega⟩
theorem om{l:List Int}(h:l≠[]):hd l∈l:=by
 cases l with
  |nil=>grind
  |cons x l=>simp[hd]
end Go.Pev.Pl
end
section
namespace Go.Pev.Pl
open Tok
noncomputable def AVi(n:Int)(a:List (List Int))(ok:Bool):Int:=if RF n a then if ok then 0 else 10 else 1
theorem ACa(n:Int)(a:List (List Int))(xs:List Int)(c:xs.length<9223372036854775808):Fu (xs,n,a,())=some (n,a,xs.any (fun x=>decide (x<0)||decide (n<=x)),()):=by
 rw[Kr,Gz,LO,Hm]
 have e:=HK (step:=Dq) (fun i=>(n,a,xs,A2 xs,(i:Int),())) xs (fun x=>decide (x<0)||decide (n<=x)) (fun i=>.inl (n,a,(i:Int),())) (.inr (.inl (n,a,()))) c
  (fun i x hi d=>by
   rw[Dq,A7,A3,Aar hi]
   simp only[BA d,BF,BR]
   rw[A6 (by omega)]
   grind)
  (by rw[Dq,A7,A3,Aaq (by omega)])
 have f:A' Dq many (n,a,xs,A2 xs,(0:Int),())=_:=e;rw[f];generalize (xs.any fun x=>decide (x<0)||decide (n<=x))=b;cases b<;>simp[BR]
theorem AZX{n v:Int}(a:Sz n):(decide (v<0)||decide (n<=v)) = !decide (In n v):=by
 by_cases h:In n v;obtain⟨_,_,b,c⟩:=h;simp[In,a.1,a.2,b,c];have:v<0\/n<=v:=by refine Ab6 fun d=>h ⟨a.1,a.2,by omega,by omega⟩
 grind
theorem eQ(n:Int)(a:List (List Int))(xs:List Int)(b:Dom a)(c:xs.length<9223372036854775808):S9 ((n,(a,())),xs,())=some (AVi n a (xs.all fun v=>decide (In n v)),()):=by
 rw[kX,eR];simp only[NU n a b.1 b.2,ACa n a xs c,AVi];by_cases h:RF n a;have d:(xs.any fun x=>decide (x<0)||decide (n<=x)) = !(xs.all fun v=>decide (In n v)):=by rw[List.not_all_eq_any_not];congr 1;funext x;exact AZX h.1
 grind;grind
end Go.Pev.Pl
end
section
namespace Go.Pev.Pl.SG
open Go.Sort
structure SP(α β:Type)where
 z:α
 c:α×α×Unit->Option (β×Unit)
 t:β->Bool
 ok:α->Prop
 okz:α
 So:ok okz
 lt:α->α->Bool
 swo:SWO lt
 OD:∀ {x y:α},ok x->ok y->∃ r,c (x,y,())=some (r,())/\t r=lt x y
variable {α β:Type} {S:SP α β}
abbrev EL{α β:Type}(S:SP α β):={x:α // S.ok x}
instance:Inhabited (EL S):=⟨⟨S.okz,S.So⟩⟩
def rep(d:Array (EL S)):List α:=d.toList.map Subtype.val
theorem Bx{d:Array (EL S)}{n:Nat}(h:n<d.size):idx (rep d) (n:Int)=some (d[n]!).val:=by rw[idx_eq,eE,Aa2 (by omega)];simp[rep,h]
theorem CZ{d:Array (EL S)}{n:Nat}{z:α}(h:n<d.size):A9 (rep d) (A4 (n:Int)) z=(d[n]!).val:=by simp[A9,A4,rep,h]
theorem LV{d:Array (EL S)}{n:Nat}{x:(EL S)}:Bl (rep d) (A4 (n:Int)) x.val=rep (d.setIfInBounds n x):=by simp[Bl,A4,rep,List.map_set]
theorem AE5{d:Array (EL S)}:A2 (rep d)=(d.size:Int):=by simp[A2,rep]
def ltX(x y:(EL S)):Bool:=S.lt x.val y.val
theorem ALu:SWO (ltX (S:=S)):=⟨fun x=>S.swo.irrefl x.val,fun x y z=>S.swo.trans x.val y.val z.val,fun x y z=>S.swo.ntrans x.val y.val z.val⟩
noncomputable def AaM(x y:(EL S)):β:=(S.OD x.property y.property).choose
theorem Dn(x y:(EL S)):S.c (x.val,y.val,())=some (AaM x y,()):=(S.OD x.property y.property).choose_spec.1
theorem Ep(x y:(EL S)):S.t (AaM x y)=ltX x y:=(S.OD x.property y.property).choose_spec.2
theorem AUR(a b i:Nat):∀ (j:Nat) (d:Array (EL S)) (n:Nat),j<d.size->d.size<4611686018427387904->j<n ->
  BK (aE S.z S.c S.t) n ((rep d),(a:Int),(b:Int),(i:Int),(j:Int),())=some (.inl ((rep (insInner ltX a j d)),(a:Int),(b:Int),(i:Int),())):=by
 intro j;induction j with
  |zero=>
   intro d n f g h;obtain⟨n,rfl⟩:∃ k,n=k+1:=⟨n-1,by omega⟩
   have l:ilt (a:Int) ((0:Nat):Int)=false:=by rw[A3];simp
   simp only[BK,aE,l,insInner]
  |succ j m=>
   intro d n f g h;obtain⟨n,rfl⟩:∃ k,n=k+1:=⟨n-1,by omega⟩
   have o:w64 (((j+1:Nat):Int)-1)=(j:Int):=by rw[BM (by omega)];omega
   have e:j<d.size:=by omega
   simp only[BK,aE,A3,o,Bx f,Bx e,CZ f,CZ e,Dn,Ep,insInner,gt_iff_lt];by_cases p:a<j+1;cases q:ltX d[j+1]! d[j]!;grind;simp only[p,Aa6,q,Adq,Abc,LV];rw[Bx (by grind)];simp only[L7];exact m (swp d (j+1) j) n (by rw[size_swp];omega) (by rw[size_swp];omega) (by omega);grind
theorem Lg(lt:(EL S)->(EL S)->Bool)(a j:Nat)(d:Array (EL S)):(insInner lt a j d).size=d.size:=by
 induction j generalizing d with
  |zero=>rfl
  |succ j b=>rw[insInner];split;rw[b,size_swp];rfl
theorem AO2(a b:Nat):∀ (k i:Nat) (d:Array (EL S)) (n:Nat),b-i=k->b<=d.size->d.size<4611686018427387904->d.size<many->k<n ->
  BK (aF S.z S.c S.t) n ((rep d),(a:Int),(b:Int),(i:Int),())=some (.inl ((rep (insOuter ltX a b i d)),())):=by
 intro k;induction k with
  |zero=>
   intro i d n g h f j l;obtain⟨n,rfl⟩:∃ k,n=k+1:=⟨n-1,by omega⟩
   have e:¬ i<b:=by omega
   rw[insOuter];simp only[BK,aF,A3,e,AbV,AbE]
  |succ k m=>
   intro i d n g h f j l;obtain⟨n,rfl⟩:∃ k,n=k+1:=⟨n-1,by omega⟩
   have e:i<b:=by omega
   have o:w64 ((i:Int)+1)=((i+1:Nat):Int):=by rw[BM (by omega)];omega
   rw[insOuter];simp only[BK,aF,A3,e,Aa6,Abc,Bo];rw[AUR a b i i d many (by omega) f (by omega)];simp only[o];exact m (i+1) _ n (by omega) (by rw[Lg];omega) (by rw[Lg];omega) (by rw[Lg];omega) (by omega)
theorem AO1(d:Array (EL S))(a b:Nat)(e:a<=b)(f:b<=d.size)(i:d.size<4294967296):(oU S.z S.c S.t) ((rep d),(a:Int),(b:Int),())=some ((rep (insertionSort ltX d a b)),()):=by
 have g:d.size<many:=by simp only[many];omega
 have h:w64 ((a:Int)+1)=((a+1:Nat):Int):=by rw[BM (by omega)];omega
 rw[AUS,Nw];simp only[h,Bo];rw[AO2 a b (b-(a+1)) (a+1) d many rfl f (by omega) g (by omega)];rfl
end Go.Pev.Pl.SG
end
end
section
section
namespace Go.Pev.Pl.SG
open Go.Sort
variable {α β:Type} {S:SP α β}
theorem yq(hi first:Nat):∀ (k a:Nat) (d:Array (EL S)) (n:Nat),hi-a=k->a<=hi->first+hi<=d.size->d.size<4294967296->(hi=0\/a<hi)->k<n ->
  BK (Tq S.z S.c S.t) n ((rep d),(hi:Int),(first:Int),(a:Int),())=some (.inl ((rep (siftDown ltX hi first a d)),())) \/
  BK (Tq S.z S.c S.t) n ((rep d),(hi:Int),(first:Int),(a:Int),())=some (.inr (.inl ((rep (siftDown ltX hi first a d)),()))):=by
 intro k;induction k using Nat.strongRecOn with
  |_ k b=>
   intro a d n l m o p q r;obtain⟨n,rfl⟩:∃ k,n=k+1:=⟨n-1,by omega⟩
   rw[siftDown];simp (disch:=omega) only[BK,Tq,AFh,A6,wrap_add,EN,A3];by_cases f:hi<=2*a+1;grind;have s:first+a<d.size:=by omega
   have u:first+(2*a+1)<d.size:=by omega
   simp only[f,AbV,ge_iff_le,AbE,dite_false];simp (disch:=omega) only[Bx,CZ,Dn,Ep];by_cases g:2*a+1+1<hi;have v:first+(2*a+2)<d.size:=by omega
   have h:2*a+1+1=2*a+2:=by omega
   have i:first+(2*a+1)+1=first+(2*a+2):=by omega
   have j:2*a+2<hi:=by omega
   simp only[h,i,j,Aa6];simp (disch:=omega) only[Bx,CZ,Dn,Ep,LV];cases w:ltX d[first+(2*a+1)]! d[first+(2*a+2)]!;simp only[Bool.and_false,AbB,AbE];cases e:ltX d[first+a]! d[first+(2*a+1)]!;simp;simp only[Aav,AbB,AbE];rw[Bx (by grind)];simp only[L7];exact b (hi-(2*a+1)) (by omega) (2*a+1) _ n rfl (by omega) (by rw[size_swp];omega) (by rw[size_swp];omega) (by omega) (by omega);simp only[Adq,Abc];cases e:ltX d[first+a]! d[first+(2*a+2)]!;simp;simp only[Aav,AbB,AbE,dite_true];rw[Bx (by grind)];simp only[L7];exact b (hi-(2*a+2)) (by omega) (2*a+2) _ n rfl (by omega) (by rw[size_swp];omega) (by rw[size_swp];omega) (by omega) (by omega);simp only[g,AbV,Bool.false_and,AbB,AbE,LV];cases e:ltX d[first+a]! d[first+(2*a+1)]!;simp;simp only[Aav,AbB,AbE];rw[Bx (by grind)];simp only[L7];exact b (hi-(2*a+1)) (by omega) (2*a+1) _ n rfl (by omega) (by rw[size_swp];omega) (by rw[size_swp];omega) (by omega) (by omega)
theorem jZ(d:Array (EL S))(a hi first:Nat)(b:first+hi<=d.size)(e:d.size<4294967296)(f:hi=0/\a=0\/a<hi):(R2 S.z S.c S.t) ((rep d),(a:Int),(hi:Int),(first:Int),())=some ((rep (siftDown ltX hi first a d)),()):=by
 have g:d.size<many:=by simp only[many];omega
 rw[AMX,JE];simp only[Bo];rcases yq hi first (hi-a) a d many rfl (by omega) b e (by omega) (by omega)with h|h<;>rw[h]
theorem Fh(lt:(EL S)->(EL S)->Bool)(hi first:Nat):∀ (k a:Nat) (d:Array (EL S)),hi-a=k->(siftDown lt hi first a d).size=d.size:=by
 intro k;induction k using Nat.strongRecOn with
  |_ k b=>intro a d c;rw[siftDown];split;rfl;split;split;rfl;split;rw[b (hi-(2*a+2)) (by omega) _ _ rfl,size_swp];rfl;split;rfl;rw[b (hi-(2*a+1)) (by omega) _ _ rfl,size_swp]
theorem vP(hi first:Nat):∀ (k:Nat) (d:Array (EL S)) (n:Nat),(hi=0/\k<=1\/k<=hi)->first+hi<=d.size->d.size<4294967296->k<n ->
  BK (VA S.z S.c S.t) n ((rep d),(first:Int),(0:Int),(hi:Int),(k:Int)-1,())=some (.inl ((rep (heapBuild ltX hi first k d)),(first:Int),(0:Int),(hi:Int),())):=by
 intro k;induction k with
  |zero=>
   intro d n e a b f;obtain⟨n,rfl⟩:∃ k,n=k+1:=⟨n-1,by omega⟩
   rw[BK,VA,BR,Aaq (by omega)];rfl
  |succ k g=>
   intro d n e a b f;obtain⟨n,rfl⟩:∃ k,n=k+1:=⟨n-1,by omega⟩
   have h:((k+1:Nat):Int)-1=(k:Int):=by omega
   rw[BK,VA,h,BR,Aar (by omega)];simp only[jZ d k hi first a b (by omega)];rw[BM (by omega)];exact g _ n (by omega) (by rw[Fh _ _ _ _ _ _ rfl];omega) (by rw[Fh _ _ _ _ _ _ rfl];omega) (by omega)
theorem O_(lt:(EL S)->(EL S)->Bool)(hi first:Nat):∀ (k:Nat) (d:Array (EL S)),(heapBuild lt hi first k d).size=d.size:=by
 intro k;induction k with
  |zero=>intro d;rfl
  |succ k a=>intro d;rw[heapBuild,a,Fh _ _ _ _ _ _ rfl]
theorem AJH(first:Nat):∀ (k:Nat) (d:Array (EL S)) (n:Nat),first+k<=d.size->d.size<4294967296->k<n ->
  BK (U' S.z S.c S.t) n ((rep d),(first:Int),(0:Int),(k:Int)-1,())=some (.inl ((rep (heapPop ltX first k d)),())):=by
 intro k;induction k with
  |zero=>
   intro d n a b e;obtain⟨n,rfl⟩:∃ k,n=k+1:=⟨n-1,by omega⟩
   rw[BK,U',BR,Aaq (by omega)];rfl
  |succ k f=>
   intro d n a b e;obtain⟨n,rfl⟩:∃ k,n=k+1:=⟨n-1,by omega⟩
   have g:((k+1:Nat):Int)-1=(k:Int):=by omega
   have h:first<d.size:=by omega
   have i:first+k<d.size:=by omega
   rw[BK,U',g,BR,Aar (by omega)];simp (disch:=omega) only[wrap_add,Bx,CZ,LV];rw[Bx (by grind)];simp only[L7];have:=jZ (swp d first (first+k)) 0 k first (by rw[size_swp];omega) (by rw[size_swp];omega) (by omega)
   simp only[Int.natCast_zero]at this;simp only[this];rw[BM (by omega)];exact f _ n (by rw[Fh _ _ _ _ _ _ rfl,size_swp];omega) (by rw[Fh _ _ _ _ _ _ rfl,size_swp];omega) (by omega)
theorem AJG(d:Array (EL S))(a b:Nat)(f:a<b)(i:b<=d.size)(g:d.size<4294967296):(VB S.z S.c S.t) ((rep d),(a:Int),(b:Int),())=some ((rep (heapSort ltX d a b)),()):=by
 have j:4294967296<many:=by simp only[many];omega
 rw[APW,JN];simp (disch:=omega) only[Es,B9,AXD,Bo];have e:(((b-a-1)/2:Nat):Int)=(((b-a-1)/2+1:Nat):Int)-1:=by omega
 rw[e,vP (b-a) a _ d many (by omega) (by omega) g (by omega)];have h:(((b-a-1:Nat)):Int)=((b-a:Nat):Int)-1:=by omega
 simp (disch:=omega) only[B9,h];rw[AJH a (b-a) _ many (by rw[O_];omega) (by rw[O_];omega) (by omega)];rfl
end Go.Pev.Pl.SG
end
section
namespace Go.Pev.Pl.SG
open Go.Sort
variable {α β:Type} {S:SP α β}
theorem AGw:∀ (k i j:Nat) (d:Array (EL S)) (n:Nat),j-i=k->(j<d.size)->d.size<4294967296->k<n ->
  BK (nM S.z S.c S.t) n ((rep d),(i:Int),(j:Int),())=some (.inl ((rep (reverseLoop i j d)),())):=by
 intro k;induction k using Nat.strongRecOn with
  |_ k b=>
   intro i j d n e a f g;obtain⟨n,rfl⟩:∃ k,n=k+1:=⟨n-1,by omega⟩
   rw[reverseLoop,BK,nM];simp only[A3];by_cases h:i<j;have hi:i<d.size:=by omega
   simp only[h,Aa6,Abc,Bx a,Bx hi,CZ hi,CZ a,LV];rw[Bx (by grind)];simp (disch:=omega) only[L7,A6,B9];exact b (j-1-(i+1)) (by omega) (i+1) (j-1) _ n rfl (by rw[size_swp];omega) (by rw[size_swp];omega) (by omega);grind
theorem AM0(d:Array (EL S))(a b:Nat)(e:a<b)(g:b<=d.size)(f:d.size<4294967296):(nN S.z S.c S.t) ((rep d),(a:Int),(b:Int),())=some ((rep (reverseRange d a b)),()):=by
 have h:4294967296<many:=by simp only[many];omega
 rw[ASy,Nc];simp (disch:=omega) only[B9,Bo];rw[AGw (b-1-a) a (b-1) d many rfl (by omega) f (by omega)];rfl
theorem FZ{d:Array (EL S)}{i j:Nat}(hi:i<d.size)(a:j<d.size):idx (Bl (rep d) (A4 (i:Int)) (A9 (rep d) (A4 (j:Int)) S.z)) (j:Int)=some ((d.setIfInBounds i d[j]!)[j]!).val /\
  Bl (Bl (rep d) (A4 (i:Int)) (A9 (rep d) (A4 (j:Int)) S.z)) (A4 (j:Int)) (A9 (rep d) (A4 (i:Int)) S.z)=(rep (swp d i j)):=by rw[CZ hi,CZ a,LV,LV];exact⟨Bx (by grind),rfl⟩
theorem m8(step:List α×Int×Int×Int×Unit->Option ((List α×Int×Int×Int×Unit)⊕(List α×Int×Int×Int×Unit)⊕Unit))(p:(EL S)->Bool)(d:Array (EL S))(a j:Nat)(e:d.size<4294967296)(f:j<d.size)
  (h:∀ i:Nat,i<=d.size->step ((rep d),(a:Int),(i:Int),(j:Int),())=if i<=j/\p d[i]! then some (.inl ((rep d),(a:Int),((i+1:Nat):Int),(j:Int),()))else some (.inr (.inl ((rep d),(a:Int),(i:Int),(j:Int),())))) :
  ∀ (k i n:Nat),j+1-i=k->i<=d.size->k<n->BK step n ((rep d),(a:Int),(i:Int),(j:Int),())=some (.inl ((rep d),(a:Int),((scanUp p d j i:Nat):Int),(j:Int),())):=by
 intro k;induction k using Nat.strongRecOn with
  |_ k c=>
   intro i n g hi l;obtain⟨n,rfl⟩:∃ k,n=k+1:=⟨n-1,by omega⟩
   rw[scanUp,BK,h i hi];by_cases b:i<=j/\p d[i]! = true;rw[Aa5 b,Aa5 (by grind)];exact c (j+1-(i+1)) (by omega) (i+1) n rfl (by omega) (by omega);rw[Aa2 b,Aa2 (by grind)]
theorem XC(step:List α×Int×Int×Int×Unit->Option ((List α×Int×Int×Int×Unit)⊕(List α×Int×Int×Int×Unit)⊕Unit))(p:(EL S)->Bool)(d:Array (EL S))(a i:Nat)(hi:1<=i)
  (h:∀ j:Nat,j<d.size->step ((rep d),(a:Int),(i:Int),(j:Int),())=if i<=j/\p d[j]! then some (.inl ((rep d),(a:Int),(i:Int),((j-1:Nat):Int),()))else some (.inr (.inl ((rep d),(a:Int),(i:Int),(j:Int),())))) :
  ∀ (j n:Nat),j<d.size->j<n->BK step n ((rep d),(a:Int),(i:Int),(j:Int),())=some (.inl ((rep d),(a:Int),(i:Int),((scanDown p d i j:Nat):Int),())):=by
 intro j;induction j with
  |zero=>
   intro n b c;obtain⟨n,rfl⟩:∃ k,n=k+1:=⟨n-1,by omega⟩
   rw[BK,h 0 b,Aa2 (by omega)];rfl
  |succ j e=>
   intro n b c;obtain⟨n,rfl⟩:∃ k,n=k+1:=⟨n-1,by omega⟩
   rw[scanDown,BK,h (j+1) b];grind
section
variable (d:Array (EL S)) (a i j:Nat) (hs:d.size<4294967296) (ha:a<d.size) (hj:j<d.size)
include hs ha hj
theorem uX(hi:i<=d.size):(dJ S.z S.c S.t) ((rep d),(a:Int),(i:Int),(j:Int),())=if i<=j/\(fun x=>ltX x d[a]!) d[i]! = true then some (.inl ((rep d),(a:Int),((i+1:Nat):Int),(j:Int),()))else some (.inr (.inl ((rep d),(a:Int),(i:Int),(j:Int),()))):=by
 rw[dJ];simp only[EN];by_cases h:i<=j;have b:i<d.size:=by omega
 simp (disch:=omega) only[h,Aa6,Bx,CZ,Dn,Ep,A6,Ade];cases ltX d[i]! d[a]!<;>simp;simp only[h,AbV,Adc,AbE]
theorem uV(hi:i<=d.size):(dG S.z S.c S.t) ((rep d),(a:Int),(i:Int),(j:Int),())=if i<=j/\(fun x=>ltX x d[a]!) d[i]! = true then some (.inl ((rep d),(a:Int),((i+1:Nat):Int),(j:Int),()))else some (.inr (.inl ((rep d),(a:Int),(i:Int),(j:Int),()))):=by
 rw[dG];simp only[EN];by_cases h:i<=j;have b:i<d.size:=by omega
 simp (disch:=omega) only[h,Aa6,Bx,CZ,Dn,Ep,A6,Ade];cases ltX d[i]! d[a]!<;>simp;simp only[h,AbV,Adc,AbE]
theorem uW(hi:1<=i):(dI S.z S.c S.t) ((rep d),(a:Int),(i:Int),(j:Int),())=if i<=j/\(fun x => !ltX x d[a]!) d[j]! = true then some (.inl ((rep d),(a:Int),(i:Int),((j-1:Nat):Int),()))else some (.inr (.inl ((rep d),(a:Int),(i:Int),(j:Int),()))):=by rw[dI];simp only[EN];by_cases h:i<=j;simp (disch:=omega) only[h,Aa6,Bx,CZ,Dn,Ep,B9,Ade];cases ltX d[j]! d[a]!<;>simp;simp only[h,AbV,Adc,AbE]
theorem uU(hi:1<=i):(dF S.z S.c S.t) ((rep d),(a:Int),(i:Int),(j:Int),())=if i<=j/\(fun x => !ltX x d[a]!) d[j]! = true then some (.inl ((rep d),(a:Int),(i:Int),((j-1:Nat):Int),()))else some (.inr (.inl ((rep d),(a:Int),(i:Int),(j:Int),()))):=by rw[dF];simp only[EN];by_cases h:i<=j;simp (disch:=omega) only[h,Aa6,Bx,CZ,Dn,Ep,B9,Ade];cases ltX d[j]! d[a]!<;>simp;simp only[h,AbV,Adc,AbE]
theorem gm(hi:i<=d.size):(Sl S.z S.c S.t) ((rep d),(a:Int),(i:Int),(j:Int),())=if i<=j/\(fun x => !ltX d[a]! x) d[i]! = true then some (.inl ((rep d),(a:Int),((i+1:Nat):Int),(j:Int),()))else some (.inr (.inl ((rep d),(a:Int),(i:Int),(j:Int),()))):=by
 rw[Sl];simp only[EN];by_cases h:i<=j;have b:i<d.size:=by omega
 simp (disch:=omega) only[h,Aa6,Bx,CZ,Dn,Ep,A6,Ade];cases ltX d[a]! d[i]!<;>simp;simp only[h,AbV,Adc,AbE]
theorem gl(hi:1<=i):(Sk S.z S.c S.t) ((rep d),(a:Int),(i:Int),(j:Int),())=if i<=j/\(fun x=>ltX d[a]! x) d[j]! = true then some (.inl ((rep d),(a:Int),(i:Int),((j-1:Nat):Int),()))else some (.inr (.inl ((rep d),(a:Int),(i:Int),(j:Int),()))):=by rw[Sk];simp only[EN];by_cases h:i<=j;simp (disch:=omega) only[h,Aa6,Bx,CZ,Dn,Ep,B9,Ade];grind;grind
end
theorem PB(p:(EL S)->Bool)(d:Array (EL S))(j i:Nat)(a:j<d.size)(hi:i<=d.size):scanUp p d j i<=d.size:=by
 suffices h:∀ (k i:Nat),j+1-i=k->i<=d.size->scanUp p d j i<=d.size from h _ i rfl hi
 intro k;induction k using Nat.strongRecOn with
  |_ k b=>intro i c hi;rw[scanUp];split;all_goals grind
theorem AAT(a:Nat):∀ (k i j:Nat) (d:Array (EL S)) (n:Nat),j+1-i=k->a<d.size->1<=i->i<=d.size->j<d.size->d.size<4294967296->k<n ->
  BK (dH S.z S.c S.t) n ((rep d),(a:Int),(i:Int),(j:Int),())=some (.inl ((rep (partLoop ltX a i j d).2),(a:Int),(((partLoop ltX a i j d).1:Nat):Int),()))/\(partLoop ltX a i j d).1<=j/\(partLoop ltX a i j d).2.size=d.size:=by
 intro k;induction k using Nat.strongRecOn with
  |_ k ih=>
   intro i j d n hk ha hi hi' hj hs hn;have hm:4294967296<many:=by simp only[many];omega
   obtain⟨n,rfl⟩:∃ k,n=k+1:=⟨n-1,by omega⟩
   rw[partLoop_eq,BK,dH];have u1:=scanUp_ge (fun x=>ltX x d[a]!) d j i;have u2:=PB (fun x=>ltX x d[a]!) d j i hj hi';rw[Bo,m8 _ (fun x=>ltX x d[a]!) d a j hs hj (fun i h=>uV d a i j hs ha hj h) _ i many rfl hi' (by omega)];generalize scanUp (fun x=>ltX x d[a]!) d j i=i2 at *;have v1:=scanDown_le (fun x => !ltX x d[a]!) d i2 j;simp only[Bo];rw[XC _ (fun x => !ltX x d[a]!) d a i2 (by omega) (fun j h=>uU d a i2 j hs ha h (by omega)) j many hj (by omega)];generalize scanDown (fun x => !ltX x d[a]!) d i2 j=j2 at *;simp only[A3];by_cases h:j2<i2;grind;have hi2:i2<d.size:=by omega
   have hj2:j2<d.size:=by omega
   simp only[h,AbV,gt_iff_lt,AbE,Bx hi2,Bx hj2,(FZ hi2 hj2).1,(FZ hi2 hj2).2];simp (disch:=omega) only[A6,B9];obtain⟨q1,q2,q3⟩:=ih (j2-1+1-(i2+1)) (by omega) (i2+1) (j2-1) (swp d i2 j2) n rfl (by rw[size_swp];omega) (by omega) (by rw[size_swp];omega) (by rw[size_swp];omega) (by rw[size_swp];omega) (by omega);exact⟨q1,by omega,by rw[q3,size_swp]⟩
theorem AHV(d:Array (EL S))(a b p:Nat)(ha:a<=p)(hp:p<b)(hb:b<=d.size)(hs:d.size<4294967296):
  (PU S.z S.c S.t) ((rep d),(a:Int),(b:Int),(p:Int),())=some ((rep (partition ltX d a b p).2.2),(((partition ltX d a b p).1:Nat):Int),(partition ltX d a b p).2.1,()):=by
 have hm:4294967296<many:=by simp only[many];omega
 have ha':a<d.size:=by omega
 have hp':p<d.size:=by omega
 rw[AOE,JF,partition];simp only[Bx ha',Bx hp',(FZ ha' hp').1,(FZ ha' hp').2];have hs':=hs;rw[<- size_swp d a p]at ha' hs' hb;generalize swp d a p=d at *;simp (disch:=omega) only[A6,B9,Bo];have u1:=scanUp_ge (fun x=>ltX x d[a]!) d (b-1) (a+1);have u2:=PB (fun x=>ltX x d[a]!) d (b-1) (a+1) (by omega) (by omega);rw[m8 _ (fun x=>ltX x d[a]!) d a (b-1) hs' (by omega) (fun i h=>uX d a i (b-1) hs' ha' (by omega) h) _ (a+1) many rfl (by omega) (by omega)];generalize scanUp (fun x=>ltX x d[a]!) d (b-1) (a+1)=i2 at *;have v1:=scanDown_le (fun x => !ltX x d[a]!) d i2 (b-1);simp only[];rw[XC _ (fun x => !ltX x d[a]!) d a i2 (by omega) (fun j h=>uW d a i2 j hs' ha' h (by omega)) (b-1) many (by omega) (by omega)];generalize scanDown (fun x => !ltX x d[a]!) d i2 (b-1)=j2 at *;simp only[A3];have hj2:j2<d.size:=by omega
 by_cases h:j2<i2;simp only[h,Aa6,gt_iff_lt,Abc,Bx ha',Bx hj2,(FZ hj2 ha').1,(FZ hj2 ha').2];have hi2:i2<d.size:=by omega
 simp only[h,AbV,gt_iff_lt,AbE,Bx hi2,Bx hj2,(FZ hi2 hj2).1,(FZ hi2 hj2).2];simp (disch:=omega) only[A6,B9];obtain⟨q1,q2,q3⟩:=AAT a (j2-1+1-(i2+1)) (i2+1) (j2-1) (swp d i2 j2) many rfl (by rw[size_swp];omega) (by omega) (by rw[size_swp];omega) (by rw[size_swp];omega) (by rw[size_swp];omega) (by omega);simp only[q1];rw[size_swp]at q3;generalize partLoop ltX a (i2+1) (j2-1) (swp d i2 j2)=r at *;have h1:r.1<r.2.size:=by omega
 have h2:a<r.2.size:=by omega
 simp only[Bx h1,Bx h2,(FZ h1 h2).1,(FZ h1 h2).2]
theorem n7(a:Nat):∀ (k i j:Nat) (d:Array (EL S)) (n:Nat),j+1-i=k->a<d.size->1<=i->i<=d.size->j<d.size->d.size<4294967296->k<n ->
  BK (Sm S.z S.c S.t) n ((rep d),(a:Int),(i:Int),(j:Int),())=some (.inl ((rep (partEqLoop ltX a i j d).2),(((partEqLoop ltX a i j d).1:Nat):Int),())):=by
 intro k;induction k using Nat.strongRecOn with
  |_ k ih=>
   intro i j d n hk ha hi hi' hj hs hn;have hm:4294967296<many:=by simp only[many];omega
   obtain⟨n,rfl⟩:∃ k,n=k+1:=⟨n-1,by omega⟩
   rw[partEqLoop_eq,BK,Sm];have u1:=scanUp_ge (fun x => !ltX d[a]! x) d j i;have u2:=PB (fun x => !ltX d[a]! x) d j i hj hi';rw[Bo,m8 _ (fun x => !ltX d[a]! x) d a j hs hj (fun i h=>gm d a i j hs ha hj h) _ i many rfl hi' (by omega)];generalize scanUp (fun x => !ltX d[a]! x) d j i=i2 at *;have v1:=scanDown_le (fun x=>ltX d[a]! x) d i2 j;simp only[Bo];rw[XC _ (fun x=>ltX d[a]! x) d a i2 (by omega) (fun j h=>gl d a i2 j hs ha h (by omega)) j many hj (by omega)];generalize scanDown (fun x=>ltX d[a]! x) d i2 j=j2 at *;simp only[A3];by_cases h:j2<i2;grind;have hi2:i2<d.size:=by omega
   have hj2:j2<d.size:=by omega
   simp only[h,AbV,gt_iff_lt,AbE,Bx hi2,Bx hj2,(FZ hi2 hj2).1,(FZ hi2 hj2).2];simp (disch:=omega) only[A6,B9];exact ih (j2-1+1-(i2+1)) (by omega) (i2+1) (j2-1) (swp d i2 j2) n rfl (by rw[size_swp];omega) (by omega) (by rw[size_swp];omega) (by rw[size_swp];omega) (by rw[size_swp];omega) (by omega)
theorem uY(d:Array (EL S))(a b p:Nat)(ha:a<=p)(hp:p<b)(hb:b<=d.size)(hs:d.size<4294967296):
  (JG S.z S.c S.t) ((rep d),(a:Int),(b:Int),(p:Int),())=some ((rep (partitionEqual ltX d a b p).2),(((partitionEqual ltX d a b p).1:Nat):Int),()):=by
 have hm:4294967296<many:=by simp only[many];omega
 have ha':a<d.size:=by omega
 have hp':p<d.size:=by omega
 rw[AAk,FI,partitionEqual];simp only[Bx ha',Bx hp',(FZ ha' hp').1,(FZ ha' hp').2];have hs':=hs;rw[<- size_swp d a p]at ha' hs' hb;generalize swp d a p=d at *;simp (disch:=omega) only[A6,B9,Bo];rw[n7 a _ (a+1) (b-1) d many rfl ha' (by omega) (by omega) (by omega) hs' (by omega)]
end Go.Pev.Pl.SG
end
section
namespace Go.Pev.Pl.SG
open Go.Sort
variable {α β:Type} {S:SP α β}
theorem Tv(d:Array (EL S))(b:Nat):∀ (k i:Nat),b-i=k->i<=b->i<=scanSorted ltX d b i/\scanSorted ltX d b i<=b:=by
 intro k;induction k using Nat.strongRecOn with
  |_ k a=>intro i c hi;rw[scanSorted];split;all_goals grind
theorem gi(d:Array (EL S))(a b s:Nat)(f:b<=d.size)(g:d.size<4294967296):∀ (k i n:Nat),b-i=k->1<=i->i<=b->k<n ->
  BK (PS S.z S.c S.t) n ((rep d),(a:Int),(b:Int),(i:Int),(s:Int),())=some (.inl ((rep d),(a:Int),(b:Int),((scanSorted ltX d b i:Nat):Int),(s:Int),())):=by
 intro k;induction k using Nat.strongRecOn with
  |_ k e=>
   intro i n j l hi m;obtain⟨n,rfl⟩:∃ k,n=k+1:=⟨n-1,by omega⟩
   rw[scanSorted,BK,PS];simp only[A3];by_cases h:i<b;have o:i<d.size:=by omega
   have p:i-1<d.size:=by omega
   simp (disch:=omega) only[h,Aa6,B9,A6,Bx,CZ,Dn,Ep,Bool.true_and];cases q:ltX d[i]! d[i-1]!;simp only[AbF,Abc];exact e (b-(i+1)) (by omega) (i+1) n rfl (by omega) (by omega) (by omega);simp;grind
theorem gk(a b i s:Nat):∀ (j:Nat) (d:Array (EL S)) (n:Nat),j<d.size->d.size<4294967296->j<n ->
  BK (LG S.z S.c S.t) n ((rep d),(a:Int),(b:Int),(i:Int),(s:Int),(j:Int),())=some (.inl ((rep (shiftDown ltX j d)),(a:Int),(b:Int),(i:Int),(s:Int),())):=by
 intro j;induction j with
  |zero=>
   intro d n f h l;obtain⟨n,rfl⟩:∃ k,n=k+1:=⟨n-1,by omega⟩
   rw[BK,LG,BR,Aaq (by omega)];rfl
  |succ j m=>
   intro d n f h l;obtain⟨n,rfl⟩:∃ k,n=k+1:=⟨n-1,by omega⟩
   have e:j<d.size:=by omega
   rw[shiftDown,BK,LG,BR,Aar (by omega)];simp (disch:=omega) only[B9,Adf,Bx,CZ,Dn,Ep];cases o:ltX d[j+1]! d[j]!;simp;have g:=FZ f e;simp only[CZ f,CZ e]at g;simp only[Aav,AbB,AbE,g];exact m _ n (by rw[size_swp];omega) (by rw[size_swp];omega) (by omega)
theorem Yj(a b i s:Nat):∀ (k j:Nat) (d:Array (EL S)) (n:Nat),b-j=k->1<=j->b<=d.size->d.size<4294967296->k<n ->
  BK (LF S.z S.c S.t) n ((rep d),(a:Int),(b:Int),(i:Int),(s:Int),(j:Int),())=some (.inl ((rep (shiftUp ltX b j d)),(a:Int),(b:Int),(i:Int),(s:Int),())):=by
 intro k;induction k using Nat.strongRecOn with
  |_ k l=>
   intro j d n m o p q r;obtain⟨n,rfl⟩:∃ k,n=k+1:=⟨n-1,by omega⟩
   rw[shiftUp,BK,LF];simp only[A3];by_cases h:j<b;have e:j<d.size:=by omega
   have f:j-1<d.size:=by omega
   simp (disch:=omega) only[h,Aa6,Abc,B9,A6,Bx,CZ,Dn,Ep];cases u:ltX d[j]! d[j-1]!;simp;have g:=FZ e f;simp only[CZ e,CZ f]at g;simp only[Aav,AbB,AbE,g];exact l (b-(j+1)) (by omega) (j+1) _ n rfl (by omega) (by rw[size_swp];omega) (by rw[size_swp];omega) (by omega);grind
theorem cC:∀ (j:Nat) (d:Array (EL S)),(shiftDown ltX j d).size=d.size:=by
 intro j;induction j with
  |zero=>intro d;rfl
  |succ j a=>intro d;rw[shiftDown];split;rfl;rw[a,size_swp]
theorem JD(b:Nat):∀ (k j:Nat) (d:Array (EL S)),b-j=k->(shiftUp ltX b j d).size=d.size:=by
 intro k;induction k using Nat.strongRecOn with
  |_ k a=>intro j d c;rw[shiftUp];split;split;rfl;rw[a (b-(j+1)) (by omega) (j+1) _ rfl,size_swp];rfl
theorem gj(a b:Nat)(hab:a<b):∀ (k i s:Nat) (d:Array (EL S)) (n:Nat),s+k=5->a+1<=i->i<=b->b<=d.size->d.size<4294967296->k<n ->
  BK (Ez S.z S.c S.t) n ((rep d),(a:Int),(b:Int),(i:Int),(s:Int),())=some (.inl ((rep (partialIns ltX a b k i d).1),(partialIns ltX a b k i d).2,())) \/
  ((partialIns ltX a b k i d).2=false/\BK (Ez S.z S.c S.t) n ((rep d),(a:Int),(b:Int),(i:Int),(s:Int),())=some (.inr (.inl ((rep (partialIns ltX a b k i d).1),())))):=by
 intro k;induction k with
  |zero=>
   intro i s d n hk h1 hi hb hs hn;obtain⟨n,rfl⟩:∃ k,n=k+1:=⟨n-1,by omega⟩
   rw[BK,Ez,BF,Aaq (by omega)];exact .inr ⟨rfl,rfl⟩
  |succ k ih=>
   intro i s d n hk h1 hi hb hs hn;have hm:4294967296<many:=by simp only[many];omega
   have es:w64 ((s:Int)+1)=((s+1:Nat):Int):=A6 (by omega);obtain⟨n,rfl⟩:∃ k,n=k+1:=⟨n-1,by omega⟩
   rw[BK,Ez,BF,Aar (by omega),partialIns];simp only[Bo,gi d a b s hb hs (b-i) i many rfl (by omega) hi (by omega)];have hsc:=Tv d b _ i rfl hi;generalize scanSorted ltX d b i=i2 at *;simp only[oX];by_cases h2:i2=b;grind;simp (disch:=omega) only[h2,AbV,AbE,Es,BF,BR];by_cases h3:b-a<50;grind;have i0:i2<d.size:=by omega
   have i1:i2-1<d.size:=by omega
   rw[Aa2 h3,Aaq (by omega)];simp (disch:=omega) only[B9,A6,Bx i0,Bx i1,(FZ i0 i1).1,(FZ i0 i1).2];have hsz:=size_swp d i2 (i2-1);generalize swp d i2 (i2-1)=d2 at *;by_cases h4:i2-a≥2;rw[Aa5 h4,Aar (show(2:Int)<=((i2-a:Nat):Int) by omega)];simp only[gk a b i2 s (i2-1) d2 many (by omega) (by omega) (by omega)];have hsz2:=cC (i2-1) d2;generalize shiftDown ltX (i2-1) d2=d3 at *;simp (disch:=omega) only[Es,A6];by_cases h5:b-i2≥2;rw[Aa5 h5,Aar (show(2:Int)<=((b-i2:Nat):Int) by omega)];simp only[Yj a b i2 s _ (i2+1) d3 many rfl (by omega) (by omega) (by omega) (by omega)];simp only[es];exact ih i2 (s+1) (shiftUp ltX b (i2+1) d3) n (by omega) (by omega) (by omega) (by rw[JD b (b-(i2+1)) (i2+1) _ rfl];omega) (by rw[JD b (b-(i2+1)) (i2+1) _ rfl];omega) (by omega);rw[Aa2 h5,Aaq (show ¬ (2:Int)<=((b-i2:Nat):Int) by omega)];simp only[es];exact ih i2 (s+1) d3 n (by omega) (by omega) (by omega) (by omega) (by omega) (by omega);rw[Aa2 h4,Aaq (show ¬ (2:Int)<=((i2-a:Nat):Int) by omega)];by_cases h5:b-i2≥2;rw[Aa5 h5,Aar (show(2:Int)<=((b-i2:Nat):Int) by omega)];simp only[Yj a b i2 s _ (i2+1) d2 many rfl (by omega) (by omega) (by omega) (by omega)];simp only[es];exact ih i2 (s+1) (shiftUp ltX b (i2+1) d2) n (by omega) (by omega) (by omega) (by rw[JD b (b-(i2+1)) (i2+1) _ rfl];omega) (by rw[JD b (b-(i2+1)) (i2+1) _ rfl];omega) (by omega);omega
theorem nv(d:Array (EL S))(a b:Nat)(e:a<b)(g:b<=d.size)(i:d.size<4294967296):
  (Gg S.z S.c S.t) ((rep d),(a:Int),(b:Int),())=some ((rep (partialInsertionSort ltX d a b).1),(partialInsertionSort ltX d a b).2,()):=by
 have k:4294967296<many:=by simp only[many];omega
 rw[uK,EJ,partialInsertionSort];simp (disch:=omega) only[A6,Bo];have h:=gj a b e 5 (a+1) 0 d many rfl (Aax _) (by omega) g i (by omega);rcases h with h|⟨j,h⟩
 have f:BK (Ez S.z S.c S.t) many ((rep d),(a:Int),(b:Int),((a+1:Nat):Int),(0:Int),())=_:=h;rw[f];have f:BK (Ez S.z S.c S.t) many ((rep d),(a:Int),(b:Int),((a+1:Nat):Int),(0:Int),())=_:=h;rw[f,j]
theorem PY(d:Array (EL S))(a b:Nat)(s:Int)(e:a<d.size)(f:b<d.size):
  ∃ g p q,(Gh S.z S.c S.t) ((rep d),(a:Int),(b:Int),s,())=some ((rep d),g,((p:Nat):Int),((q:Nat):Int),())/\(p=a/\q=b\/p=b/\q=a):=by rw[AAu,FJ];simp only[Bx e,Bx f,CZ e,CZ f,Dn,Ep];cases ltX d[b]! d[a]!;all_goals grind
theorem Pe(d:Array (EL S))(a b c:Nat)(s:Int)(e:a<d.size)(f:b<d.size)(g:c<d.size):
  ∃ h p,(Gj S.z S.c S.t) ((rep d),(a:Int),(b:Int),(c:Int),s,())=some ((rep d),h,((p:Nat):Int),())/\(p=a\/p=b\/p=c):=by rw[ABD,FK];obtain⟨i,j,k,l,q⟩:=PY d a b s e f;simp only[l];obtain⟨m,n,r,o,u⟩:=PY d k c i (by omega) g;simp only[o];obtain⟨v,w,x,y,A⟩:=PY d j n m (by omega) (by omega);grind
theorem Pf(d:Array (EL S))(a:Nat)(s:Int)(b:1<=a)(e:a+1<d.size)(g:d.size<4294967296):
  ∃ f p,(Gk S.z S.c S.t) ((rep d),(a:Int),s,())=some ((rep d),f,((p:Nat):Int),())/\a<=p+1/\p<=a+1:=by rw[ABM,FL];simp (disch:=omega) only[B9,A6];obtain⟨h,i,j,b⟩:=Pe d (a-1) a (a+1) s (by omega) (by omega) e;grind
theorem zn(d:Array (EL S))(a b:Nat)(i:a+8<=b)(w:b<=d.size)(e:d.size<4294967296):
  ∃ p h,(Nf S.z S.c S.t) ((rep d),(a:Int),(b:Int),())=some ((rep d),((p:Nat):Int),h,())/\a<=p/\p<b:=by
 rw[AHE,Ge];simp (disch:=omega) only[Es,ADu,AFg,QP,AFf,wrap_add,BR];rw[Aar (show(8:Int)<=((b-a:Nat):Int) by omega)];simp only[];by_cases h:50<=b-a;rw[Aar (show(50:Int)<=((b-a:Nat):Int) by omega)];simp only[];obtain⟨j,k,l,x⟩:=Pf d (a+(b-a)/4*1) 0 (by omega) (by omega) e;simp only[l];obtain⟨m,n,o,y⟩:=Pf d (a+(b-a)/4*2) j (by omega) (by omega) e;simp only[o];obtain⟨q,r,s,A⟩:=Pf d (a+(b-a)/4*3) m (by omega) (by omega) e;simp only[s];obtain⟨f,u,g,v⟩:=Pe d k n r q (by omega) (by omega) (by omega);grind
 ·rw[Aaq (show ¬ (50:Int)<=((b-a:Nat):Int) by omega)];simp only[];obtain⟨f,u,g,v⟩:=Pe d (a+(b-a)/4*1) (a+(b-a)/4*2) (a+(b-a)/4*3) 0 (by omega) (by omega) (by omega);simp only[g];cases ieq f 0;·cases ieq f 12;all_goals grind
  grind
end Go.Pev.Pl.SG
end
section
namespace Go.Pev.Pl
open Go.Sort
theorem AIz:(List.range 256).all (fun k=>match I4[k]? with
  |some v=>decide (0<=v)&&(decide (v<=8)&&decide (2 ^ v.toNat<=max 1 (2*k)))
  |none=>false)=true:=by decide +kernel
theorem AI0{k:Nat}(h:k<256):∃ v:Nat,idx I4 (k:Int)=some (v:Int)/\v<=8/\2 ^ v<=max 1 (2*k):=by
 have:=AbK.1 AIz k (AbI.2 h);rw[idx_eq,eE,Aa2 (by omega),Abn];cases e:I4[k]? with
  |none=>grind
  |some v=>rw[e]at this;simp only[Aau,Aat]at this;exact⟨v.toNat,by grind,by omega,this.2.2⟩
theorem mr(n s:Nat)(h:s<=64):shr? .u64 (n:Int) (s:Int)=some ((n/2 ^ s:Nat):Int):=by rw[cD,yr,Aa2 (by omega),Abn,show min s (IntKind.bits .u64)=s from AcG h,Int.fdiv_eq_ediv_of_nonneg _ (Int.pow_nonneg (by omega))];rfl
theorem u8_in{n:Int}(h:0<=n/\n<=255):IntKind.wrap .u8 n=n:=IntWalk.u8_in n h
theorem u64_in{n:Int}(h:0<=n/\n<=18446744073709551615):IntKind.wrap .u64 n=n:=IntWalk.u64_in n h
theorem AI1(n:Nat)(k:n<4294967296):∃ v:Nat,AEl ((n:Int),())=some ((v:Int),())/\v<=32/\2 ^ v<=max 1 (2*n):=by
 rw[vC,oK,BR,Aaq (by omega)];simp only[BR];have a:∀ (s m:Nat),s<=24->m<256->m*2 ^ s<=n->(s=0\/1<=m)->∃ v:Nat,idx I4 (m:Int)=some (v:Int)/\v<=8/\2 ^ (s+v)<=max 1 (2*n):=by
  intro s m l i j d;obtain⟨v,e,c,b⟩:=AI0 i;refine⟨v,e,c,?_⟩;rcases d with rfl|d;grind;have f:2 ^ v<=2*m:=by omega
  have o:2 ^ (s+v)<=2*(m*2 ^ s):=by rw[Nat.pow_add,Nat.mul_comm (2 ^ s),<- Nat.mul_assoc];exact AbY _ f
  omega
 by_cases d:65536<=n;rw[Aar (show(65536:Int)<=(n:Int) by omega)];have g:shr? .u64 (n:Int) 16=some ((n/65536:Nat):Int):=mr n 16 (by omega);simp only[g];by_cases f:256<=n/65536;rw[Aar (show(256:Int)<=((n/65536:Nat):Int) by omega)];have h:shr? .u64 ((n/65536:Nat):Int) 8=some ((n/65536/256:Nat):Int):=mr _ 8 (by omega);obtain⟨v,e,c,b⟩:=a 24 (n/65536/256) (by omega) (by omega) (by omega) (by omega);simp only[h];rw[u8_in (by omega)];simp only[e];refine⟨24+v,?_,by omega,b⟩;rw[BM (n:=0+16) (by omega),BM (n:=(0:Int)+16+8) (by omega),BM (n:=(v:Int)) (by omega),BM (by omega)];congr 2;rw[Aaq (show ¬ (256:Int)<=((n/65536:Nat):Int) by omega)];obtain⟨v,e,c,b⟩:=a 16 (n/65536) (by omega) (by omega) (by omega) (by omega);simp only[];rw[u8_in (by omega)];simp only[e];refine⟨16+v,?_,by omega,b⟩;rw[BM (n:=0+16) (by omega),BM (n:=(v:Int)) (by omega),BM (by omega)];congr 2;rw[Aaq (show ¬ (65536:Int)<=(n:Int) by omega)];by_cases f:256<=n;have h:shr? .u64 (n:Int) 8=some ((n/256:Nat):Int):=mr n 8 (by omega);obtain⟨v,e,c,b⟩:=a 8 (n/256) (by omega) (by omega) (by omega) (by omega);simp only[];rw[Aar (show(256:Int)<=(n:Int) by omega)];simp only[h];rw[u8_in (by omega)];simp only[e];refine⟨8+v,?_,by omega,b⟩;rw[BM (n:=0+8) (by omega),BM (n:=(v:Int)) (by omega),BM (by omega)];congr 2;obtain⟨v,e,c,b⟩:=a 0 n (by omega) (by omega) (by omega) (by omega);simp only[];rw[Aaq (show ¬ (256:Int)<=(n:Int) by omega)];simp only[];rw[u8_in (by omega)];simp only[e];refine⟨0+v,?_,by omega,b⟩;rw[BM (n:=(v:Int)) (by omega),BM (by omega)];congr 2
theorem ZD(n:Nat)(a:n<4294967296):∃ v:Nat,bitsLen ((n:Int),())=some ((v:Int),())/\v<=32/\2 ^ v<=max 1 (2*n):=by rw[fa,YE];obtain⟨v,e,h⟩:=AI1 n a;grind
theorem um(n:Nat)(b:1<=n)(c:n<4294967296):∃ m:Nat,Z7 ((n:Int),())=some ((m:Int),())/\1<=m/\m<=2*n:=by
 rw[dU,XU,u64_in (by omega)];obtain⟨v,e,a,d⟩:=ZD n c;simp only[e];have f:shl? .u64 (1:Int) (v:Int)=some ((2 ^ v:Nat):Int):=by
  rw[SW,mu,Aa2 (by omega),Abn,show min v (IntKind.bits .u64)=v from AcG (by show v<=64;omega),Int.one_mul];have:2 ^ v<=2 ^ 32:=AdQ (by omega) a;have b:1<=2 ^ v:=Nat.one_le_two_pow;have e:((2:Int) ^ v)=((2 ^ v:Nat):Int):=by simp
  rw[e,u64_in (by omega)]
 grind
theorem rX(r:Int):∃ a y,xorNext (r,())=some (a,y,()):=by rw[ay,Ws,SW,mu,Aa2 (by omega)];simp only[];rw[cD,yr,Aa2 (by omega)];simp only[];rw[SW,mu,Aa2 (by omega)];simp
theorem AOR(y:Int)(m:Nat)(b:1<=m)(c:m<18446744073709551616):∃ o:Nat,IntKind.wrap .u64 ((BitVec.ofInt (IntKind.bits .u64) y &&& BitVec.ofInt (IntKind.bits .u64) (IntKind.wrap .u64 ((m:Int)-1))).toNat)=(o:Int)/\o<m:=by
 rw[u64_in (n:=(m:Int)-1) (by omega),show(m:Int)-1=((m-1:Nat):Int) by omega,BitVec.toNat_and];have a:(BitVec.ofInt (IntKind.bits .u64) ((m-1:Nat):Int)).toNat=m-1:=by rw[Ac3,AdE];exact AcV (by show m-1<18446744073709551616;omega)
 rw[a];have d:(BitVec.ofInt (IntKind.bits .u64) y).toNat &&& (m-1)<=m-1:=Nat.and_le_right;exact⟨_,u64_in (by omega),by omega⟩
end Go.Pev.Pl
end
section
namespace Go.Pev.Pl.SG
open Go.Sort
variable {α β:Type} {S:SP α β}
theorem wu(a b:Nat)(m:Nat)(E:a+8<=b)(j:1<=m)(F:m<=2*(b-a)):∀ (k t:Nat) (d:Array (EL S)) (r:Int) (n:Nat),t+k=3->b<=d.size->d.size<4294967296->k<n ->
  ∃ f:Array (EL S),BK (M_ S.z S.c S.t) n ((rep d),(a:Int),((b-a:Nat):Int),r,(m:Int),((a+(b-a)/4*2-1+t:Nat):Int),())=some (.inl ((rep f),()))/\PermIn a b d f:=by
 intro k;induction k with
  |zero=>
   intro t d r n v s w x;obtain⟨n,rfl⟩:∃ k,n=k+1:=⟨n-1,by omega⟩
   rw[BK,M_];simp (disch:=omega) only[ADu,QP,wrap_add,A6,EN];rw[Aaq (by omega)];exact⟨d,rfl,permIn_refl d a b⟩
  |succ k A=>
   intro t d r n v s w x;obtain⟨n,rfl⟩:∃ k,n=k+1:=⟨n-1,by omega⟩
   rw[BK,M_];simp (disch:=omega) only[ADu,QP,wrap_add,A6,EN];rw[Aar (show a+(b-a)/4*2-1+t<=a+(b-a)/4*2+1 by omega)];obtain⟨u,y,e⟩:=rX r;obtain⟨o,B,G⟩:=AOR y m j (by omega);simp only[e,B];rw[BM (n:=(o:Int)) (by omega)];simp only[EN];have i:a+(b-a)/4*2-1+t<d.size:=by omega
   have fin:∀ q:Nat,a<=q->q<b->∃ f:Array (EL S),BK (M_ S.z S.c S.t) n ((rep (swp d (a+(b-a)/4*2-1+t) q)),(a:Int),((b-a:Nat):Int),u,(m:Int),((a+(b-a)/4*2-1+t+1:Nat):Int),())=some (.inl ((rep f),()))/\PermIn a b d f:=by intro q l p;obtain⟨f,C,D⟩:=A (t+1) (swp d (a+(b-a)/4*2-1+t) q) u n (by omega) (by rw[size_swp];omega) (by rw[size_swp];omega) (by omega);exact⟨f,C,permIn_trans _ _ _ a b (swp_permIn d a b _ q (by omega) (by omega) l p s) D⟩
   by_cases h:b-a<=o;have g:a+(o-(b-a))<d.size:=by omega
   simp (disch:=omega) only[h,Aa6,Es,wrap_add,A6,Bx i,Bx g,(FZ i g).1,(FZ i g).2];exact fin _ (by omega) (by omega);have g:a+o<d.size:=by omega
   simp (disch:=omega) only[h,AbV,Es,wrap_add,A6,Bx i,Bx g,(FZ i g).1,(FZ i g).2];exact fin _ (by omega) (by omega)
theorem ACv(d:Array (EL S))(a b:Nat)(g:a<=b)(i:b<=d.size)(j:d.size<4294967296):
  ∃ f:Array (EL S),(OE S.z S.c S.t) ((rep d),(a:Int),(b:Int),())=some ((rep f),())/\PermIn a b d f:=by
 have o:4294967296<many:=by simp only[many];omega
 rw[AKg,G3];simp (disch:=omega) only[Es,BR];by_cases h:8<=b-a;rw[Aar (show(8:Int)<=((b-a:Nat):Int) by omega)];obtain⟨m,e,k,l⟩:=um (b-a) (by omega) (by omega);simp only[e];rw[u64_in (n:=((b-a:Nat):Int)) (by omega)];simp (disch:=omega) only[ADu,QP,wrap_add,B9,Bo];obtain⟨f,p,q⟩:=wu a b m (by omega) k l 3 0 d ((b-a:Nat):Int) many rfl i j (by omega);grind;rw[Aaq (show ¬ (8:Int)<=((b-a:Nat):Int) by omega)];exact⟨d,rfl,permIn_refl d a b⟩
end Go.Pev.Pl.SG
end
section
namespace Go.Pev.Pl.SG
open Go.Sort
variable {α β:Type} {S:SP α β}
abbrev AaR(α:Type):=List α×Int×Int×Int×Bool×Bool×Unit
abbrev AFM(α:Type):=AaR α⊕(List α×Unit)⊕Unit
def fk(d:Array (EL S))(a b:Nat):AFM α->Prop
 |.inl (xs,x,y,l,_,_,_)=>∃ (e:Array (EL S)) (i j:Nat),xs=(rep e)/\x=(i:Int)/\y=(j:Int)/\0<=l/\l<=100/\i<=j/\j<=e.size/\e.size=d.size/\j-i<b-a/\Below ltX i j e /\
   ∀ R,PermIn i j e R->SortedIn ltX i j R->PermIn a b d R/\SortedIn ltX a b R
 |.inr (.inl (xs,_))=>∃ R:Array (EL S),xs=(rep R)/\PermIn a b d R/\SortedIn ltX a b R
 |.inr (.inr _)=>False
def G6(self:(List α×Int×Int×Int×Unit)->Option ((List α×Unit)))(m:Nat):Prop:=
 ∀ (d:Array (EL S)) (a b:Nat) (l:Int),a<=b->b<=d.size->d.size<4294967296->0<=l->l<=100->Below ltX a b d->2*(b-a)<m ->
  ∃ R:Array (EL S),self ((rep d),(a:Int),(b:Int),l,())=some ((rep R),())/\PermIn a b d R/\SortedIn ltX a b R
section
variable {self:(List α×Int×Int×Int×Unit)->Option ((List α×Unit))} {d:Array (EL S)} {a b:Nat} {l:Int}
theorem tO(f:G6 (S:=S) self (b-a))(G:b<=d.size)(H:d.size<4294967296)(j:0<=l/\l<=100)
  {d3:Array (EL S)} {p:Nat} (q:PermIn a b d d3) (I:Below ltX a b d3) (r:a<=p) (s:p<b) :
  ∃ o,(match(PU S.z S.c S.t) ((rep d3),(a:Int),(b:Int),(p:Int),())with
  |none=>none
  |some (y20,y21,y22,_)=>match quo? .i64 (w64 ((b:Int)-(a:Int))) (8:Int)with
   |none=>none
   |some u=>match(ilt (w64 (y21-(a:Int))) (w64 ((b:Int)-y21)))with
    |true=>match self (y20,(a:Int),y21,l,())with
     |none=>none
     |some (y24,_)=>some ((.inl (y24,(w64 (y21+(1:Int))),(b:Int),l,(ile u (w64 (y21-(a:Int)))),y22,())):AFM α)
    |false=>match self (y20,(w64 (y21+(1:Int))),(b:Int),l,())with
     |none=>none
     |some (y25,_)=>some (.inl (y25,(a:Int),y21,l,(ile u (w64 ((b:Int)-y21))),y22,())))=some o/\fk d a b o:=by
 have F:b<=d3.size:=by rw[q.1];exact G
 have J:d3.size<4294967296:=by rw[q.1];exact H
 rw[AHV d3 a b p r s F J];rcases K:partition ltX d3 a b p with⟨mid,O,w⟩
 obtain⟨M,P,v,x,y,k,i⟩:=round_part ALu (partition_holds _) r s F I K;simp (disch:=omega) only[Es,A6,AZ4,A3];have N:b<=w.size:=by omega
 by_cases h:mid-a<b-mid;obtain⟨L,e,m,A⟩:=f w a mid l M (by omega) (by omega) j.1 j.2 x (by omega);simp only[h,Aa6,e];obtain⟨n,g⟩:=k _ m A;refine⟨_,rfl,L,mid+1,b,rfl,rfl,rfl,j.1,j.2,by omega,by rw[m.1];exact N,by rw[m.1,v,q.1],by omega,n,fun R B C => ?_⟩;obtain⟨D,E⟩:=g R B C;exact⟨permIn_trans _ _ _ a b q D,E⟩;obtain⟨L,e,m,A⟩:=f w (mid+1) b l (by omega) (by omega) (by omega) j.1 j.2 y (by omega);simp only[h,AbV,e];obtain⟨n,g⟩:=i _ m A;refine⟨_,rfl,L,a,mid,rfl,rfl,rfl,j.1,j.2,by omega,by rw[m.1];omega,by rw[m.1,v,q.1],by omega,n,fun R B C => ?_⟩;obtain⟨D,E⟩:=g R B C;exact⟨permIn_trans _ _ _ a b q D,E⟩
theorem T6(e:G6 (S:=S) self (b-a))(k:b<=d.size)(m:d.size<4294967296)(j:0<=l/\l<=100)
  {d3:Array (EL S)} {p:Nat} (u wp:Bool) (h:PermIn a b d d3) (n:Below ltX a b d3) (f:a<=p) (g:p<b) :
  ∃ o,(XR S.z S.c S.t) self (rep d3) (a:Int) (b:Int) (p:Int) l u wp=some o/\fk d a b o:=by
 have s:b<=d3.size:=by rw[h.1];exact k
 have v:d3.size<4294967296:=by rw[h.1];exact m
 rw[XR,BF];by_cases w:0<a;rw[Aar (by omega)];have H:a-1<d3.size:=by omega
 have I:p<d3.size:=by omega
 simp (disch:=omega) only[B9,Bx,CZ,Dn,Ep];cases x:ltX d3[a-1]! d3[p]!;simp only[AbF];rw[uY d3 a b p f g s v];rcases y:partitionEqual ltX d3 a b p with⟨mid,A⟩
 obtain⟨B,C,q,r,i⟩:=round_eq ALu (partitionEqual_holds _) w f g s n x y;refine⟨_,rfl,A,mid,b,rfl,rfl,rfl,j.1,j.2,by omega,by omega,by rw[q,h.1],by omega,r,fun R D E => ?_⟩;obtain⟨F,G⟩:=i R D E;exact⟨permIn_trans _ _ _ a b h F,G⟩;simp only[Aav];exact tO e k m j h n f g;rw[Aaq (by omega)];exact tO e k m j h n f g
theorem ADz(e:G6 (S:=S) self (b-a))(j:a<b)(k:b<=d.size)(m:d.size<4294967296)(q:0<=l/\l<=100)
  {d3:Array (EL S)} {p:Nat} (h:Int) (u wp:Bool) (i:PermIn a b d d3) (n:Below ltX a b d3) (f:a<=p) (g:p<b) :
  ∃ o,(nk S.z S.c S.t) self (rep d3) (a:Int) (b:Int) (p:Int) h l u wp=some o/\fk d a b o:=by
 have r:b<=d3.size:=by rw[i.1];exact k
 have y:d3.size<4294967296:=by rw[i.1];exact m
 unfold nk;cases u;exact T6 e k m q _ _ i n f g;cases wp;exact T6 e k m q _ _ i n f g;simp only[];cases ieq h 1;exact T6 e k m q _ _ i n f g;simp only[];rw[nv d3 a b j r y];obtain⟨s,v⟩:=partialInsertionSort_holds (lt:=ltX) ALu d3 a b j r n;rcases A:partialInsertionSort ltX d3 a b with⟨w,fin⟩
 rw[A]at s v;have x:PermIn a b d w:=permIn_trans _ _ _ a b i s;cases fin;exact T6 e k m q _ _ x (n.perm r s) f g;exact⟨_,rfl,w,rfl,x,v rfl⟩
theorem ADy(f:G6 (S:=S) self (b-a))(j:a+8<=b)(k:b<=d.size)(m:d.size<4294967296)(r:0<=l/\l<=100)
  {d3:Array (EL S)} (w wp:Bool) (g:PermIn a b d d3) (s:Below ltX a b d3) :
  ∃ o,(nj S.z S.c S.t) self (rep d3) (a:Int) (b:Int) l w wp=some o/\fk d a b o:=by
 have i:b<=d3.size:=by rw[g.1];exact k
 have u:d3.size<4294967296:=by rw[g.1];exact m
 rw[nj];obtain⟨p,h,e,n,q⟩:=zn d3 a b j i u;simp only[e];cases ieq h 2;exact ADz f (by omega) k m r h _ _ g s n q;simp only[AM0 d3 a b (by omega) i u];have v:=reverseRange_holds (α:=(EL S)) d3 a b (by omega) i;simp (disch:=omega) only[B9,Es];exact ADz f (by omega) k m r 1 _ _ (permIn_trans _ _ _ a b g v) (s.perm i v) (by omega) (by omega)
theorem AHN(f:G6 (S:=S) self (b-a))(g:a<=b)(h:b<=d.size)(j:d.size<4294967296)(n:0<=l/\l<=100)(m p:Bool)(B:Below ltX a b d):
  ∃ o,(H9 S.z S.c S.t) self ((rep d),(a:Int),(b:Int),l,m,p,())=some o/\fk d a b o:=by rw[H9];simp (disch:=omega) only[Es,BR,DF];by_cases q:b-a<=12;rw[Aar (show((b-a:Nat):Int)<=12 by omega)];simp only[AO1 d a b g h j];obtain⟨i,k⟩:=insertionSort_holds (lt:=ltX) ALu d a b g h;exact⟨_,rfl,_,rfl,i,k⟩;rw[Aaq (show ¬ ((b-a:Nat):Int)<=12 by omega)];simp only[];by_cases r:l=0;subst r;simp only[BEq.rfl,AJG d a b (by omega) h j];obtain⟨i,k⟩:=heapSort_holds (lt:=ltX) ALu d a b g h;exact⟨_,rfl,_,rfl,i,k⟩;rw[show(l==0)=false by grind];simp only[];cases m;obtain⟨s,e,i⟩:=ACv d a b g h j;simp only[AbF,e];rw[BM (by omega)];exact ADy f (by omega) h j (by omega) _ _ i (B.perm h i);simp only[Aav];exact ADy f (by omega) h j n _ _ (permIn_refl d a b) B
end
theorem tP{self:(List α×Int×Int×Int×Unit)->Option ((List α×Unit))}{m:Nat}(g:G6 (S:=S) self m):∀ (k:Nat) (d:Array (EL S)) (a b:Nat) (l:Int) (p q:Bool) (n:Nat),b-a=k->k<=m->a<=b->b<=d.size->d.size<4294967296->0<=l->l<=100->Below ltX a b d->k<n ->
  ∃ R:Array (EL S),BK ((H9 S.z S.c S.t) self) n ((rep d),(a:Int),(b:Int),l,p,q,())=some (.inl ((rep R),()))/\PermIn a b d R/\SortedIn ltX a b R:=by
 intro k;induction k using Nat.strongRecOn with
  |_ k w=>
   intro d a b l p q n U V r A C s u B W;obtain⟨n,rfl⟩:∃ k,n=k+1:=⟨n-1,by omega⟩
   have f:G6 (S:=S) self (b-a):=fun d D b' l E F G H I J X=>g d D b' l E F G H I J (by omega);obtain⟨o,e,h⟩:=AHN f r A C ⟨s,u⟩ p q B;rw[BK,e];match o,h with
  |.inl (xs,x,y,l',wb',wp',_),h=>obtain⟨K,i,j,rfl,rfl,rfl,L,M,N,O,Y,Z,P,v⟩:=h;obtain⟨R,e2,Q,T⟩:=w (j-i) (by omega) K i j l' wb' wp' n rfl (by omega) N O (by omega) L M P (by omega);grind
  |.inr (.inl (xs,_)),h=>obtain⟨R,rfl,Q,T⟩:=h;grind
theorem AHO:∀ k:Nat,G6 (S:=S) ((Hd S.z S.c S.t) (k+1)) (2 ^ k):=by
 intro k;have f:4294967296<many:=by simp only[many];omega
 induction k with
  |zero=>
   intro d a b l g i j m n o r;have:G6 (S:=S) ((Hd S.z S.c S.t) 0) 0:=fun _ _ _ _ _ _ _ _ _ _ h=>by omega
   obtain⟨R,e,p,q⟩:=tP this (b-a) d a b l true true many rfl (by omega) g i j m n o (by omega);refine⟨R,?_,p,q⟩;rw[Hd,Ni];simp only[Bo,e]
  |succ k s=>
   intro d a b l g i j m n o r;have u:2 ^ (k+1)=2*2 ^ k:=by omega
   obtain⟨R,e,p,q⟩:=tP s (b-a) d a b l true true many rfl (by omega) g i j m n o (by omega);refine⟨R,?_,p,q⟩;rw[Hd,Ni];simp only[Bo,e]
theorem Ga{α β:Type}(S:SP α β)(xs:List α)(h:xs.length<4294967296)(a:∀ x∈xs,S.ok x):∃ ys,(YX S.z S.c S.t) (xs,())=some (ys,())/\ys.Perm xs/\ys.Pairwise fun x y=>S.lt y x=false:=by
 obtain⟨d,rfl⟩:∃ d:Array (EL S),xs=rep d:=by refine⟨(xs.attach.map fun x=>⟨x.val,a x.val x.property⟩).toArray,?_⟩;simp only[rep,List.map_map];simp
 have m:(rep d).length=d.size:=by simp[rep]
 rw[m]at h;rw[AL8,JC];rw[AE5,u64_in (by omega)];obtain⟨v,e,s,_⟩:=ZD d.size h;simp only[e];obtain⟨R,n,k,o⟩:=AHO 99 d 0 d.size (v:Int) (by omega) (by omega) h (by omega) (by omega) (.inl rfl) (by omega)
 have p:(nn S.z S.c S.t) (rep d,(0:Int),(d.size:Int),(v:Int),())=some (rep R,()):=by rw[ATR];exact n
 refine⟨rep R,by simp only[p],?_,?_⟩;obtain⟨q,_,l⟩:=k;have r:R.extract 0 d.size=R:=by grind
 rw[r,Array.extract_size]at l;exact l.map _;rw[rep,AcA,Ab7];intro i j hi u b;have f:i<R.size:=by omega
 have g:j<R.size:=by omega
 have:=o i j (Acq _) b (by rw[<- k.1];omega);rw[getElem!_pos R j g,getElem!_pos R i f]at this;simpa [ltX]using this
end Go.Pev.Pl.SG
end
section
namespace Go.Pev.Pl.SL
open Go.Sort
def ok(l:List Int):Prop:=l≠[]
def okz:List Int:=[0]
theorem So:ok okz:=by simp[ok,okz]
def lt(x y:List Int):Bool:=ltInt (x.headD 0) (y.headD 0)
theorem swo:SWO lt:=⟨fun x=>swo_ltInt.irrefl _,fun x y z=>swo_ltInt.trans _ _ _,fun x y z=>swo_ltInt.ntrans _ _ _⟩
theorem OD{x y:List Int}(d:ok x)(e:ok y):∃ c,C9 (x,y,())=some (c,())/\ilt c (0:Int)=lt x y:=by
 cases x with
  |nil=>exact absurd rfl d
  |cons a x=>
   cases y with
    |nil=>exact absurd rfl e
    |cons b y=>
     rw[ra,lq];have f:idx (a::x) (0:Int)=some a:=by rw[idx_eq];rfl
     have g:idx (b::y) (0:Int)=some b:=by rw[idx_eq];rfl
     simp only[f,g,Ir,Hu,LI,Nk];simp only[DF,BF,lt,AdV,ltInt];by_cases h:a<b;simp[h];by_cases i:b<a;grind;simp[h,i]
noncomputable def S:SG.SP (List Int) Int:=⟨([]:List (Int)),C9,tLt,ok,okz,So,lt,swo,fun a b=>OD a b⟩
theorem Ga(xs:List (List Int))(h:xs.length<4294967296)(a:∀ x∈xs,ok x):∃ ys,ADg (xs,())=some (ys,())/\ys.Perm xs/\ys.Pairwise fun x y=>lt y x=false:=SG.Ga S xs h a
end Go.Pev.Pl.SL
end
end
section
namespace Go.Pev.Pl
abbrev Edge:=Int×Int×Unit
inductive Con(l:List Edge):Int->Int->Prop
 |refl (a:Int):Con l a a
 |edge (e:Edge):e∈l->Con l e.1 e.2.1
 |symm {a b:Int}:Con l a b->Con l b a
 |trans {a b c:Int}:Con l a b->Con l b c->Con l a c
theorem Con.mono{l j:List Edge}(h:∀ e∈l,∃ d∈j,(d.1=e.1/\d.2.1=e.2.1)\/(d.1=e.2.1/\d.2.1=e.1)){a b:Int}(c:Con l a b):Con j a b:=by
 induction c with
  |refl a=>exact .refl a
  |edge e m=>obtain⟨d,k,f|f⟩:=h e m;have:=Con.edge d k;rw[f.1,f.2]at this;exact this;have:=Con.edge d k;rw[f.1,f.2]at this;exact this.symm
  |symm _ n=>exact n.symm
  |trans _ _ g i=>exact g.trans i
theorem Con.snoc{l:List Edge}{e:Edge}{a b:Int}:Con (l++[e]) a b↔Con l a b\/(Con l a e.1/\Con l e.2.1 b)\/(Con l a e.2.1/\Con l e.1 b):=by
 constructor;intro h;induction h with
  |refl a=>exact .inl (.refl a)
  |edge n k=>rcases Aa7.1 k with h|h;exact .inl (.edge n h);simp only[AcJ]at h;subst h;exact .inr (.inl ⟨.refl _,.refl _⟩)
  |symm _ p=>
   rcases p with h|⟨c,d⟩|⟨c,d⟩
   exact .inl h.symm;exact .inr (.inr ⟨d.symm,c.symm⟩);exact .inr (.inl ⟨d.symm,c.symm⟩)
  |trans _ _ o i=>
   rcases o with h|⟨c,d⟩|⟨c,d⟩
   rcases i with g|⟨j,f⟩|⟨j,f⟩
   exact .inl (h.trans g);exact .inr (.inl ⟨h.trans j,f⟩);exact .inr (.inr ⟨h.trans j,f⟩);rcases i with g|⟨j,f⟩|⟨j,f⟩
   exact .inr (.inl ⟨c,d.trans g⟩);exact .inr (.inl ⟨c,f⟩);exact .inl (c.trans f);rcases i with g|⟨j,f⟩|⟨j,f⟩
   exact .inr (.inr ⟨c,d.trans g⟩);exact .inl (c.trans f);exact .inr (.inr ⟨c,f⟩)
 have m:∀ {x y},Con l x y->Con (l++[e]) x y:=fun h=>h.mono fun n k=>⟨n,by simp[k],.inl ⟨rfl,rfl⟩⟩
 have k:Con (l++[e]) e.1 e.2.1:=.edge e (by simp);rintro (h|⟨c,d⟩|⟨c,d⟩);exact m h;exact(m c).trans (k.trans (m d));exact(m c).trans (k.symm.trans (m d))
theorem Con.nil{a b:Int}(h:Con [] a b):a=b:=by
 induction h with
  |refl a=>rfl
  |edge e f=>cases f
  |symm _ g=>exact g.symm
  |trans _ _ c d=>exact c.trans d
theorem Con.within{l:List Edge}{I:Int->Prop}(h:∀ e∈l,I e.1/\I e.2.1){a b:Int}(c:Con l a b):a=b\/(I a/\I b):=by
 induction c with
  |refl a=>exact .inl rfl
  |edge e i=>exact .inr (h e i)
  |symm _ j=>rcases j with h|h;exact .inl h.symm;exact .inr ⟨h.2,h.1⟩
  |trans _ _ f d=>rcases f with rfl|g;exact d;rcases d with rfl|k;exact .inr g;exact .inr ⟨g.1,k.2⟩
theorem Con.const{l:List Edge}{f:Int->Int}(h:∀ e∈l,f e.1=f e.2.1){a b:Int}(c:Con l a b):f a=f b:=by
 induction c with
  |refl a=>rfl
  |edge e i=>exact h e i
  |symm _ j=>exact j.symm
  |trans _ _ d g=>exact d.trans g
end Go.Pev.Pl
end
section
section
namespace Go.Pev.Pl
open Tok
def ER{α:Type}(P:Nat->Bool):Nat->List α->List α
 |_,[]=>[]
 |i,x::xs=>if P i then ER P (i+1) xs else x::ER P (i+1) xs
theorem v7{α:Type}(P:Nat->Bool):∀ (xs:List α) (s:Nat),(∀ k,s<=k->P k=false)->ER P s xs=xs:=by
 intro xs;induction xs with
  |nil=>intro s _;rfl
  |cons x xs a=>intro s h;rw[ER,h s (Aax _),a (s+1) fun k b=>h k (by omega)];rfl
theorem ACJ{α:Type}(P:Nat->Bool)(i:Nat):∀ (xs:List α) (s:Nat),s<=i->(∀ k,s<=k->P k=decide (k=i))->ER P s xs=xs.eraseIdx (i-s):=by
 intro xs;induction xs with
  |nil=>intro s _ _;rfl
  |cons x xs a=>intro s c h;rw[ER,h s (Aax _)];by_cases e:s=i;subst e;rw[v7 P xs (s+1) fun k b=>by grind];simp;rw[a (s+1) (by omega) fun k b=>h k (by omega)];rw[Aaq e,Aa2 (by simp),show i-s=(i-(s+1))+1 by omega,Ac8]
theorem ew{α:Type}(P:Nat->Bool)(i j:Nat)(a:i<j):∀ (xs:List α) (s:Nat),s<=i->(∀ k,s<=k->P k=decide (k=i\/k=j))->ER P s xs=(xs.eraseIdx (j-s)).eraseIdx (i-s):=by
 intro xs;induction xs with
  |nil=>intro s _ _;rfl
  |cons x xs b=>intro s d h;rw[ER,h s (Aax _)];by_cases e:s=i;subst e;rw[ACJ P j xs (s+1) (by omega) fun k c=>by rw[h k (by omega)];grind];rw[Aar (.inl rfl),Aa5 rfl,show j-s=(j-(s+1))+1 by omega,Ac8,Acm,List.eraseIdx_zero];rfl;rw[b (s+1) (by omega) fun k c=>h k (by omega)];rw[Aaq (by omega),Aa2 (by simp),show j-s=(j-(s+1))+1 by omega,Ac8,show i-s=(i-(s+1))+1 by omega,Ac8]
theorem v8{α:Type}(P:Nat->Bool):∀ (xs:List α) (b:List α) (k:Nat),(xs.foldl (fun(a:List α×Nat) x=>(if P a.2 then a.1 else a.1++[x],a.2+1)) (b,k)).1=b++ER P k xs:=by
 intro xs;induction xs with
  |nil=>intro b k;simp[ER]
  |cons x xs c=>intro b k;rw[Abu,c,ER];grind
theorem ACK{α:Type}(P:Nat->Bool):∀ (xs:List α) (k:Nat),(ER P k xs).length<=xs.length/\∀ x∈ER P k xs,x∈xs:=by
 intro xs;induction xs with
  |nil=>intro k;simp[ER]
  |cons x xs a=>intro k;obtain⟨b,c⟩:=a (k+1);rw[ER];grind
theorem AFq(n:Int)(c:List (List Int))(d:List Int)(g:List (List Int))(u:c.length<1073741824)(E:d.length<1073741824)(F:g.length<1073741824)
  (q:∀ l∈c,l≠[]) (s:∀ r∈g,plain r≠[]) :
  ∃ ys,ADR ((n,(c,())),d,g,())=some (n,ys,())/\ys.Perm (ER (fun k=>decide ((k:Int)∈d)) 0 c++g.map plain)/\ys.Pairwise (fun a b=>¬ hd b<hd a):=by
 rw[rn,mQ]
 have e:=EC (step:=O2) (fun i (a:List (List Int)×Nat)=>(d,g,n,c,(0:Int),a.1,c,A2 c,(i:Int),())) c
  (fun x a=>.inl (if decide ((a.2:Int)∈d)then a.1 else a.1++[x],a.2+1)) (fun a=>.inl (g,n,c,(0:Int),a.1,())) (fun i a=>a.2=i/\a.1.length<=i) (by omega)
  (fun i x a hi o ⟨v,G⟩=>by
   refine⟨fun w j => ?_,fun r j=>by cases j⟩
   cases j
   subst v
   rw[O2,A7,A3,Aar hi]
   simp only[BA o,Ls d _ (show d.length<9223372036854775808 by omega)]
   rw[A6 (by omega),CM (by simp only[A7,Aa1,Aa8];omega)]
   by_cases h:(a.2:Int)∈d
   ·grind
   ·simp only[h,AbV,AbF]
    exact⟨by trivial,by trivial,by grind⟩)
  (fun a _=>by rw[O2,A7,A3,Aaq (by omega)]) ([],0) ⟨rfl,by simp⟩
 have y:A' O2 many (d,g,n,c,(0:Int),[],c,A2 c,(0:Int),())=_:=e;rw[y,CV];have t:(c.foldl (fun(a:List (List Int)×Nat) x=>(if decide ((a.2:Int)∈d)then a.1 else a.1++[x],a.2+1)) ([],0)).1=ER (fun k=>decide ((k:Int)∈d)) 0 c:=by have:=v8 (fun k=>decide ((k:Int)∈d)) c [] 0;grind
 simp only[t];obtain⟨H,z⟩:=ACK (fun k=>decide ((k:Int)∈d)) c 0;generalize ER (fun k=>decide ((k:Int)∈d)) 0 c=rest at *
 have f:=EC (step:=O1) (fun i (a:List (List Int))=>(n,c,(0:Int),a,g,A2 g,(i:Int),())) g
  (fun x a=>.inl (a++[plain x])) (fun a=>.inl (n,c,(0:Int),a,())) (fun i a=>a.length=rest.length+i) (by omega)
  (fun i x a hi o v=>by
   refine⟨fun w j => ?_,fun r j=>by cases j⟩
   cases j
   rw[O1,A7,A3,Aar hi]
   simp only[BA o,zJ]
   rw[A6 (by omega),CM (by simp only[A7,Aa1,Aa8];omega)]
   exact⟨rfl,by grind⟩)
  (fun a _=>by rw[O1,A7,A3,Aaq (by omega)]) rest rfl
 have A:A' O1 many (n,c,(0:Int),rest,g,A2 g,(0:Int),())=_:=f;rw[A,CV];have m:∀ (l p:List (List Int)),l.foldl (fun a x=>a++[plain x]) p=p++l.map plain:=by
  intro l;induction l with
   |nil=>simp
   |cons x l I=>grind
 simp only[m];obtain⟨ys,J,B,C⟩:=SL.Ga (rest++g.map plain) (by grind) (fun x o=>by rcases Aa7.1 o with h|h;exact q x (z x h);obtain⟨r,D,rfl⟩:=AbA.1 h;exact s r D)
 refine⟨ys,by grind,B,C.imp fun {a b} h => ?_⟩;simp only[SL.lt,Go.Sort.ltInt,AbX]at h;exact h
def AG1(a:List (List Int))(p:List Int):List (List Int):=a.take (a.findIdx fun x => !decide (hd x<hd p))++p::a.drop (a.findIdx fun x => !decide (hd x<hd p))
theorem AG0(a:List (List Int))(p:List Int):(AG1 a p).Perm (p::a):=by rw[AG1];refine List.perm_middle.trans ?_;simp
theorem AS5{c:List (List Int)}{p:List Int}(h:c.Pairwise (fun a b=>hd a<hd b))(g:∀ x∈c,hd x≠hd p):(AG1 c p).Pairwise (fun a b=>hd a<hd b):=by
 rw[AG1];have k:∀ x∈c.take (c.findIdx fun x => !decide (hd x<hd p)),hd x<hd p:=by intro x d;obtain⟨j,m,e⟩:=AdX.1 d;grind
 have l:∀ x∈c.drop (c.findIdx fun x => !decide (hd x<hd p)),hd p<hd x:=by
  intro x d;by_cases f:(c.findIdx fun x => !decide (hd x<hd p))<c.length;have n:=List.findIdx_getElem (p:=fun x => !decide (hd x<hd p)) (xs:=c) (w:=f);rw[Abl f]at d;have o:¬ hd c[c.findIdx fun x => !decide (hd x<hd p)]<hd p:=by grind
  have q:=g _ (Ab5 f);rcases AbD.1 d with rfl|d;omega;have i:(c.drop (c.findIdx fun x => !decide (hd x<hd p))).Pairwise (fun a b=>hd a<hd b):=h.sublist (List.drop_sublist _ _);rw[Abl f,Abi]at i;grind;grind
 rw[List.pairwise_append,Abi];grind
end Go.Pev.Pl
end
section
namespace Go.Pev.Pl
open Tok
theorem qY{n u v:Int}(h:okT n (.arc u v)):n<=Ry n u v:=by rw[Ky h];exact(aN h.1 h.2.1).1
def DL(n:Int)(A B:List Int)(u v:Int):List Int:=u::Ry n u v::(DH B v++Ry n v u::(DH A u).tail)
theorem Xa{n u v:Int}{A B:List Int}(q:TI n A)(r:TI n B)(j:u∈A)(k:v∈B)(i:In n u)(m:In n v)(hd:Dis n A B):
  TI n (DL n A B u v)/\DH A u=u::(DH A u).tail/\(∀ t,t<n->(t∈DL n A B u v↔t∈A\/t∈B))/\u≠v/\okT n (.arc u v):=by
 obtain⟨a,s,w,y⟩:=xI q (t:=.ver u) i j;obtain⟨b,z,C,J⟩:=xI r (t:=.ver v) m k;have d:DH A u=(Tok.ver u::a).map (Il n):=s;have f:DH B v=(Tok.ver v::b).map (Il n):=z;have g:u≠v:=by rintro rfl;exact hd u j i.2.2.2 k
 have e:okT n (.arc u v):=⟨i,m,g⟩
 have D:=(Ev j).perm;have o:=(Ev k).perm;have c:DH A u=u::(DH A u).tail:=by rw[d];rfl
 have h:DL n A B u v=(Tok.ver u :: .arc u v::(.ver v::b ++ .arc v u::a)).map (Il n):=by rw[DL,d,f,Ky e,Ky (Pa e)];grind
 refine⟨⟨_,h,fun t c => ?_,T.join w C fun x p l => ?_⟩,c,fun t E => ?_,g,e⟩;rcases AbD.1 c with rfl|c;exact i;rcases AbD.1 c with rfl|c;exact e;rcases Aa7.1 c with c|c;grind;rcases AbD.1 c with rfl|c;exact Pa e;grind;have F:=y _ p;have G:x∈A:=D.mem_iff.2 (by rw[d];exact AbA.2 ⟨_,p,rfl⟩);have H:x∈B:=o.mem_iff.2 (by rw[f];exact AbA.2 ⟨_,l,rfl⟩);exact hd x G F.2.2.2 H;have K:=qY e;have L:=qY (Pa e);have I:t∈A↔t=u\/t∈(DH A u).tail:=by grind
 rw[DL,AbD,AbD,Aa7,AbD,I,<- o.mem_iff];grind
theorem VQ{n:Int}{a b:List (List Int)}(h:a.Perm b)(c:a.Pairwise (Dis n)):b.Pairwise (Dis n):=(h.pairwise_iff fun {_ _} d=>d.symm).1 c
theorem AVs{n:Int}{c d m:List (List Int)}{A B p:List Int}(h:FR n c)(o:c.Perm (A::B::d))(w:RG n p)(q:∀ t,t<n->(t∈p↔t∈A\/t∈B))(k:m.Perm (p::d))(x:m.Pairwise (fun a b=>hd a<hd b)):FR n m:=by have f:=VQ o h.dis;rw[Abi,Abi]at f;obtain⟨y,z,C⟩:=f;refine⟨h.sz,fun l i => ?_,x,VQ k.symm ?_,fun v s => ?_⟩;rcases AbD.1 (k.mem_iff.1 i)with rfl|i;exact w;exact h.rg l (o.mem_iff.2 (by simp[i]));rw[Abi];refine⟨fun r u t D e => ?_,C⟩;rcases(q t e).1 D with g|g;exact y r (by simp[u]) t g e;exact z r u t g e;obtain⟨l,i,j⟩:=h.cov v s;have:=o.mem_iff.1 i;simp only[AbD]at this;rcases this with rfl|rfl|g;exact⟨p,k.mem_iff.2 (by simp),(q v s.2.2.2).2 (.inl j)⟩;exact⟨p,k.mem_iff.2 (by simp),(q v s.2.2.2).2 (.inr j)⟩;grind
theorem lL(n:Int)(a:List (List Int))(u v:Int)(b:Dom a):asked ((n,(a,())),u,v,())=some (if RF n a then if In n u/\In n v then 0 else 10 else 1,()):=by rw[w9,qV];simp only[NU n a b.1 b.2,Zm];grind
theorem AT0{n:Int}{c:List (List Int)}{u v:Int}{i j:Nat}{A B:List Int}(h:FR n c)(K:In n u)(L:In n v)(hi:c[i]? = some A)(w:c[j]? = some B)(H:u∈A)(I:v∈B)(y:i≠j):
  ∃ M d,jL ((n,(c,())),u,v,())=some (n,M,0,())/\FR n M/\c.Perm (A::B::d)/\M.Perm (plain (DL n A B u v)::d)/\Dis n A B:=by
 have J:=h.dom;have N:=YI.2 h;have O:=h.rg A (Aay hi);have P:=h.rg B (Aay w);have Y:=(AbC.1 hi).1;have Z:=(AbC.1 w).1;have pu:plc c u=(i:Int):=h.zg hi K.2.2.2 H;have pv:plc c v=(j:Int):=h.zg w L.2.2.2 I;have f:c.Perm (A::B::(c.eraseIdx (max i j)).eraseIdx (min i j)):=by rcases Nat.lt_or_gt_of_ne y with g|g;rw[Nat.max_eq_right (by omega),AcG (by omega)];exact Y4 g hi w;rw[Nat.max_eq_left (by omega),Adu (by omega)];exact(Y4 g w hi).trans (List.Perm.swap _ _ _)
 have q:Dis n A B:=by have:=VQ f h.dis;simp_all
 obtain⟨l1,l2,U,huv,ho⟩:=Xa O.2.2.2 P.2.2.2 H I K L q;obtain⟨o,r⟩:=xL l1;have V:DL n A B u v=u::Ry n u v::(DH B v++Ry n v u::(DH A u).tail):=rfl;have lA:(DH A u).length<=1000:=by rw[<- (Ev H).perm.length_eq];exact O.1.1
 have lB:(DH B v).length<=1000:=by rw[<- (Ev I).perm.length_eq];exact P.1.1
 have m:((c.eraseIdx (max i j)).eraseIdx (min i j)).Sublist c:=(List.eraseIdx_sublist _ _).trans (List.eraseIdx_sublist _ _);have Q:ER (fun k=>decide ((k:Int)∈[(i:Int),(j:Int)])) 0 c=(c.eraseIdx (max i j)).eraseIdx (min i j):=by rcases Nat.lt_or_gt_of_ne y with g|g;rw[Nat.max_eq_right (by omega),AcG (by omega)];exact ew _ i j g c 0 (by omega) fun k _=>AcY.2 (by simp only[AbD,AdP,or_false];omega);rw[Nat.max_eq_left (by omega),Adu (by omega)];exact ew _ j i g c 0 (by omega) fun k _=>AcY.2 (by simp only[AbD,AdP,or_false];omega)
 have hrl:((c.eraseIdx (max i j)).eraseIdx (min i j)).length<=c.length:=m.length_le;generalize (c.eraseIdx (max i j)).eraseIdx (min i j)=d at *;have z:d.Pairwise (fun a b=>hd a<hd b):=h.up.sublist m;have C:∀ l∈d,l≠[]:=fun l D=>(h.rg l (m.subset D)).2.1;have s:=VQ f h.dis;rw[Abi,Abi]at s;have p:∀ x∈d,hd x≠hd (plain (DL n A B u v)):=by intro x R e;have S:=Vz o;have g2:=(U _ S.2.2.2).1 (r.perm.mem_iff.2 (om o.2.1));have W:hd (plain (DL n A B u v))∈x:=e▸om (C x R);rcases g2 with g|g;exact s.1 x (by simp[R]) _ g S.2.2.2 W;exact s.2.1 x R _ g S.2.2.2 W
 have E:=AS5 z p;have F:=AG0 d (plain (DL n A B u v));refine⟨AG1 d (plain (DL n A B u v)),d,?_,AVs h f o (fun t ht=>by rw[<- r.perm.mem_iff];exact U t ht) F E,f,F,q⟩;obtain⟨ys,X,y2,y3⟩:=AFq n c [(i:Int),(j:Int)] [DL n A B u v] J.1 (by simp) (by simp) (fun l D=>(h.rg l D).2.1) (by simp;exact o.2.1);have T:ys=AG1 d (plain (DL n A B u v)):=by refine sI E (y2.trans ?_) y3;grind
 rw[T]at X;rw[bZ,Zk];have s1:EX (DH A u) (0:Int) (1:Int)=some [u]:=by have:=ma (xs:=DH A u) (l:=0) (h:=1) (by omega) (by grind);grind
 have s2:EX (DH A u) (1:Int) (A2 (DH A u))=some (DH A u).tail:=by have:=Ti (xs:=DH A u) (l:=1) (by grind);grind
 have d1:Iq 0 (A4 (A2 [u])) (DH A u)=[u]:=by rw[l2];rfl
 have d2:Iq 1 (A4 (A2 (DH A u).tail)) (DH A u)=(DH A u).tail:=by rw[Iq,A7,fB,Adp,AbM]
 have G:RB ([[u],[Ry n u v],DH B v,[Ry n v u],(DH A u).tail],())=some (DL n A B u v,()):=by rw[ZA _ (by simp) (by simp;omega)];simp[DL]
 have ne:((i:Int))≠(j:Int):=by omega
 simp only[lL n c u v J,N,K,L,and_self,Abc,BI,SQ n c _ J.1 (fun l D=>(J.2 l D).1),pu,pv,ne,Aa6,AbV,Aav,BA hi,BA w,AGv,pD,O.1,P.1,H,I,s1,s2,ALr,d1,d2,G,X]
theorem ABU{n:Int}{a:List (List Int)}{u v:Int}(h:FR n a)(d:In n u)(e:In n v)(f:plc a u=plc a v):
  jL ((n,(a,())),u,v,())=some (n,a,5,()):=by have b:=h.dom;have c:=YI.2 h;rw[bZ,Zk];simp only[lL n a u v b,c,d,e,and_self,Abc,BI,SQ n a _ b.1 (fun l g=>(b.2 l g).1),f,Aa6,Aav]
end Go.Pev.Pl
end
section
namespace Go.Pev.Pl
open Tok
def TL(c:List (List Int))(a b:Int):Prop:=∃ A∈c,a∈A/\b∈A
structure FC(n:Int)(rings:List (List Int))(l:List Edge):Prop where
 fr:FR n rings
 sam:∀ a b,In n a->In n b->(TL rings a b↔Con l a b)
 arcs:∀ A∈rings,∀ u v,okT n (.arc u v)->Ry n u v∈A->∃ e∈l,(e.1=u/\e.2.1=v)\/(e.1=v/\e.2.1=u)
theorem FR.AMf{n:Int}{c:List (List Int)}(h:FR n c){a b:Int}(g:In n a)(l:In n b):plc c a=plc c b↔TL c a b:=by
 obtain⟨i,A,pa,hi,m,_⟩:=XO (h.cov a g);obtain⟨j,B,p,f,o,_⟩:=XO (h.cov b l);rw[pa,p];constructor;intro e;have:i=j:=by omega
 subst this;rw[hi]at f;cases f;exact⟨A,Aay hi,m,o⟩;rintro⟨K,q,r,s⟩;obtain⟨k,d⟩:∃ k:Nat,c[k]? = some K:=by obtain⟨k,d,rfl⟩:=Ab1 q;exact⟨k,Aaz d⟩
 rw[h.uniq hi d g.2.2.2 m r,h.uniq f d l.2.2.2 o s]
theorem FR.one{n:Int}{a:List (List Int)}(h:FR n a){A B:List Int}(b:A∈a)(c:B∈a){v:Int}(d:v<n)(e:v∈A)(f:v∈B):A=B:=by obtain⟨i,hi,rfl⟩:=Ab1 b;obtain⟨j,g,rfl⟩:=Ab1 c;have:=h.uniq (Aaz hi) (Aaz g) d e f;grind
theorem TL.perm{a b:List (List Int)}(h:a.Perm b)(x y:Int):TL a x y↔TL b x y:=by constructor;rintro⟨A,c,d⟩;exact⟨A,h.mem_iff.1 c,d⟩;rintro⟨A,c,d⟩;exact⟨A,h.mem_iff.2 c,d⟩
theorem AIx{n u v x y:Int}{A B:List Int}(e:TI n A)(f:TI n B)(c:u∈A)(d:v∈B)(i:In n u)(j:In n v)(hd:Dis n A B)(b:okT n (.arc x y))(h:Ry n x y∈DL n A B u v):Ry n x y∈A\/Ry n x y∈B\/(x=u/\y=v)\/(x=v/\y=u):=by obtain⟨_,l,_,k,a⟩:=Xa e f c d i j hd;have m:=(Ev c).perm;have o:=(Ev d).perm;have g:=qY b;rw[DL,AbD,AbD,Aa7,AbD]at h;rcases h with h|h|h|h|h;grind;rw[Ky b,Ky a]at h;have:=VN b a h;grind;grind;rw[Ky b,Ky (Pa a)]at h;have:=VN b (Pa a) h;grind;grind
theorem AVt{n:Int}{d:List (List Int)}{l:List Edge}{e:Edge}(h:FC n d l)(k:In n e.1)(m:In n e.2.1):
  ∃ z q,jL ((n,(d,())),e.1,e.2.1,())=some (n,z,q,())/\FC n z (l++[e])/\(q=0/\z.length+1=d.length\/q=5/\z=d):=by
 have o:=h.fr;obtain⟨i,A,pu,hi,D,_⟩:=XO (o.cov _ k);obtain⟨j,B,pv,V,E,_⟩:=XO (o.cov _ m);have P:=Aay hi;have Q:=Aay V;by_cases R:i=j;have F:plc d e.1=plc d e.2.1:=by omega
 refine⟨d,5,ABU o k m F,⟨o,fun a b p r => ?_,fun A hA u v W G => ?_⟩,.inr ⟨rfl,rfl⟩⟩;rw[h.sam a b p r,Con.snoc];have X:Con l e.1 e.2.1:=(h.sam _ _ k m).1 ((o.AMf k m).1 F);constructor;grind;rintro (g|⟨H,I⟩|⟨H,I⟩);exact g;exact H.trans (X.trans I);exact H.trans (X.symm.trans I);obtain⟨C,J,L⟩:=h.arcs A hA u v W G;grind
 ·obtain⟨z,f,q1,q3,Y,S,Z⟩:=AT0 o k m hi V D E R;have gA:=o.rg A P;have gB:=o.rg B Q;obtain⟨l1,l2,l3,huv,W⟩:=Xa gA.2.2.2 gB.2.2.2 D E k m Z;obtain⟨hRG,s⟩:=xL l1;have M:=Y.length_eq;have N:=S.length_eq;simp only[Aa1]at M N;refine⟨z,0,q1,⟨q3,fun a b p r => ?_,fun K t x y O G => ?_⟩,.inl ⟨rfl,by omega⟩⟩;rw[TL.perm S,Con.snoc,<- h.sam a b p r,<- h.sam a _ p k,<- h.sam _ b m r,<- h.sam a _ p m,<- h.sam _ b k r];have w:∀ x,In n x->(x∈plain (DL n A B e.1 e.2.1)↔x∈A\/x∈B):=fun x T=>by rw[<- s.perm.mem_iff];exact l3 x T.2.2.2
  have sA:∀ x,In n x->(TL d x e.1↔x∈A):=fun x T=>by constructor;rintro⟨K,t,J,L⟩;rw[o.one P t k.2.2.2 D L];exact J;intro U;exact⟨A,P,U,D⟩
  have sB:∀ x,In n x->(TL d x e.2.1↔x∈B):=fun x T=>by constructor;rintro⟨K,t,J,L⟩;rw[o.one Q t m.2.2.2 E L];exact J;intro U;exact⟨B,Q,U,E⟩
  have sy:∀ x y,TL d x y↔TL d y x:=fun x y=>⟨fun ⟨K,a,b,c⟩=>⟨K,a,c,b⟩,fun ⟨K,a,b,c⟩=>⟨K,a,c,b⟩⟩
  rw[sA a p,sB a p,sy e.2.1 b,sB b r,sy e.1 b,sA b r];have hs:TL d a b↔(a∈A/\b∈A)\/(a∈B/\b∈B)\/∃ K∈f,a∈K/\b∈K:=by rw[TL.perm Y];simp only[TL,AbD,exists_eq_or_imp]
  have hz:TL (plain (DL n A B e.1 e.2.1)::f) a b↔((a∈A\/a∈B)/\(b∈A\/b∈B))\/∃ K∈f,a∈K/\b∈K:=by simp only[TL,AbD,exists_eq_or_imp,w a p,w b r]
  grind
  ·have old:∀ K∈d,Ry n x y∈K->∃ C∈l++[e],(C.1=x/\C.2.1=y)\/(C.1=y/\C.2.1=x):=fun K t G=>by obtain⟨C,J,L⟩:=h.arcs K t x y O G;grind
   rcases AbD.1 (S.mem_iff.1 t)with rfl|t
   ·rcases AIx gA.2.2.2 gB.2.2.2 D E k m Z O (s.perm.mem_iff.2 G)with g|g|⟨H,I⟩|⟨H,I⟩
    all_goals grind
   grind
theorem AC3{N:Nat}(d:1<=N)(e:N<=64):FC (N:Int) (DK N) []:=by
 have f:∀ A∈DK N,∃ k:Nat,k<N/\A=[(k:Int)]:=fun A c=>by simp only[DK,AbA,AbI]at c;grind
 have g:∀ k,k<N->In (N:Int) (k:Int):=fun k i=>⟨by omega,by omega,by omega,by omega⟩
 refine⟨⟨⟨by omega,by omega⟩,fun l n => ?_,?_,?_,fun v j => ?_⟩,fun a b m s => ?_,fun A c u v o p => ?_⟩;obtain⟨k,i,rfl⟩:=f l n;refine⟨⟨by simp,fun x w => ?_,by simp⟩,by simp,rfl,(AZV (N:Int) k).2 (g k i)⟩;grind;rw[DK,AcA];exact List.pairwise_lt_range.imp fun h=>by simp only[hd,AdV];omega
 rw[DK,AcA];exact List.pairwise_lt_range.imp fun {a b} h t y _ q=>by grind
 obtain⟨k,rfl⟩:=Aaw j.2.2.1;have:=j.2.2.2;exact⟨[(k:Int)],by simp only[DK,AbA,AbI];grind,by simp⟩;constructor;rintro⟨A,c,d,e⟩;obtain⟨k,_,rfl⟩:=f A c;simp only[AcJ]at d e;rw[d,e];exact .refl _;intro r;have:=r.nil;subst this;obtain⟨k,rfl⟩:=Aaw m.2.2.1;have:=m.2.2.2;exact⟨[(k:Int)],by simp only[DK,AbA,AbI];grind,by simp,by simp⟩;obtain⟨k,i,rfl⟩:=f A c;simp only[AcJ]at p;have:=qY o;omega
theorem vo(l:List Edge)(g:l.length<1073741824):ends (l,())=some (l.flatMap fun e=>[e.1,e.2.1],()):=by
 rw[AE2,AB7]
 have e:=EC (step:=VM) (fun i (a:List Int)=>(a,l,A2 l,(i:Int),())) l (fun x a=>.inl (a++[x.1,x.2.1])) (fun a=>.inl (a,())) (fun i a=>a.length=2*i) (by omega)
  (fun i x a hi d h=>by
   refine⟨fun j c => ?_,fun r c=>by cases c⟩
   cases c
   rw[VM,A7,A3,Aar hi]
   simp only[BA d]
   rw[A6 (by omega),CM (by simp only[A7,Aa1,Aa8];omega)]
   exact⟨rfl,by grind⟩)
  (fun a _=>by rw[VM,A7,A3,Aaq (by omega)]) [] rfl
 have f:A' VM many ([],l,A2 l,(0:Int),())=_:=e;rw[f,CV];have k:∀ (xs:List Edge) (b:List Int),xs.foldl (fun a x=>a++[x.1,x.2.1]) b=b++xs.flatMap fun e=>[e.1,e.2.1]:=by
  intro xs;induction xs with
   |nil=>simp
   |cons x xs m=>grind
 grind
theorem AP8(n:Int)(l:List Edge):((l.flatMap fun e=>[e.1,e.2.1]).all fun v=>decide (In n v))=l.all fun e=>decide (In n e.1/\In n e.2.1):=by simp
theorem AP7(l:List Edge):(l.flatMap fun e=>[e.1,e.2.1]).length=2*l.length:=by
 induction l with
  |nil=>rfl
  |cons e l a=>grind
theorem ABT{n:Int}(l:List Edge)(w:l.length<1073741824)(o:∀ e∈l,In n e.1/\In n e.2.1):
  ∀ (m i cnt:Nat) (a:List (List Int)) (b:List Bool),i+m=l.length->b.length=i->FC n a (l.take i)->m<cnt ->
  ∃ g d,BK Io cnt (n,a,(0:Int),b,l,(l.length:Int),(i:Int),())=some (.inl (n,g,(0:Int),d,()))/\FC n g l/\d.length=l.length:=by
 intro m;induction m with
  |zero=>
   intro i cnt a b hi j h p;obtain⟨cnt,rfl⟩:∃ c,cnt=c+1:=⟨cnt-1,by omega⟩
   rw[Abs (by omega)]at h;refine⟨a,b,?_,h,by omega⟩;rw[BK,Io,A3,Aaq (by omega)]
  |succ m r=>
   intro i cnt a b hi j h p;obtain⟨cnt,rfl⟩:∃ c,cnt=c+1:=⟨cnt-1,by omega⟩
   have f:i<l.length:=by omega
   have s:l[i]? = some l[i]:=Aaz f;obtain⟨t,u⟩:=o _ (Ab5 f);obtain⟨g,q,v,k,_⟩:=AVt h t u;rw[BK,Io,A3,Aar f];simp only[BA s,v];rw[A6 (by omega),CM (by simp only[A7,Aa1,Aa8];omega)];rw[<- Abq f]at k;exact r (i+1) cnt g _ (by omega) (by simp[ES,j]) k (by omega)
theorem AEx(k:Int)(l:List Edge)(j:Sz k)(d:l.length<1073741824):
  ((∀ e∈l,In k e.1/\In k e.2.1)/\∃ a,fof (k,l,())=some ((k,(a,())),0,())/\FC k a l) \/
  (¬ (∀ e∈l,In k e.1/\In k e.2.1)/\fof (k,l,())=some ((0,([],())),10,())):=by
 have f:9223372036854775808<many:=by simp only[many];omega
 rw[APu,APv];have n:Z_ k=(k,DK k.toNat,0,()):=by rw[Z_,Aa5 j]
 obtain⟨r,s⟩:=j;obtain⟨N,rfl⟩:=Aaw (show 0<=k by omega);have m:=AC3 (N:=N) (by omega) (by omega);have o:=m.fr.dom;have g:=YI.2 m.fr;have p:=AP7 l;have b:S9 (((N:Int),(DK N,())),l.flatMap fun e=>[e.1,e.2.1],())=some (if ∀ e∈l,In (N:Int) e.1/\In (N:Int) e.2.1 then 0 else 10,()):=by rw[eQ _ _ _ o (by omega),AP8,AVi,Aa5 g];grind
 simp only[AF2,n,Abn,UQ,Aav];rw[ki,eV,Y7,TC];by_cases c:∀ e∈l,In (N:Int) e.1/\In (N:Int) e.2.1;refine .inl ⟨c,?_⟩;rw[Aa5 c]at b;obtain⟨t,h,q,u,_⟩:=ABT l d c l.length 0 many (DK N) [] (by omega) rfl (by grind) (by omega);have i:BK Io many ((N:Int),DK N,(0:Int),[],l,(l.length:Int),(0:Int),())=_:=q;simp only[vo l d,b,UQ,Aav,Bo,A7,i];grind;refine .inr ⟨c,?_⟩;rw[Aa2 c]at b;simp only[vo l d,b,BI];rfl
end Go.Pev.Pl
end
section
namespace Go.Pev.Pl
open Tok
def cl(out:List Int)(v:Int):Int:=out.getD v.toNat 0
def CI(N:Nat)(l:List Edge)(out:List Int):Prop:=out.length=N/\∀ k,k<N->0<=out.getD k 0/\out.getD k 0<=(k:Int)/\Con l (k:Int) (out.getD k 0)
theorem ADZ:∀ (l:List Int) (k:Nat) (x:Int),k<l.length->(l.set k x).sum=l.sum-l.getD k 0+x:=by
 intro l;induction l with
  |nil=>simp
  |cons y l a=>
   intro k x h;cases k with
    |zero=>grind
    |succ k=>grind
theorem SU{N:Nat}{l:List Edge}{out:List Int}(h:CI N l out)(e:N<=64):0<=out.sum/\out.sum<=4096:=by
 obtain⟨f,g⟩:=h;have a:∀ (xs:List Int),(∀ x∈xs,0<=x/\x<=64)->0<=xs.sum/\xs.sum<=64*(xs.length:Int):=by
  intro xs;induction xs with
   |nil=>simp
   |cons x xs b=>intro h;have i:=b fun y c=>h y (Ab3 _ c);have j:=h x (by simp);grind
 have:=a out fun x d=>by obtain⟨k,m,rfl⟩:=Ab1 d;grind
 omega
theorem AZi(N:Nat)(l:List Edge)(V:l.length<1073741824)(L:∀ e∈l,In (N:Int) e.1/\In (N:Int) e.2.1):
  ∀ (m i cnt:Nat) (out:List Int) (d:Bool),i+m=l.length->CI N l out->m<cnt ->
  ∃ b a,BK G0 cnt ((N:Int),l,out,d,(i:Int),())=some (.inl ((N:Int),l,b,a,()))/\CI N l b /\
   ((a=d/\b=out/\∀ e∈l.drop i,cl out e.1=cl out e.2.1)\/(a=true/\b.sum<out.sum)):=by
 intro m;induction m with
  |zero=>
   intro i cnt out d hi h M;obtain⟨cnt,rfl⟩:∃ c,cnt=c+1:=⟨cnt-1,by omega⟩
   refine⟨out,d,?_,h,.inl ⟨rfl,rfl,?_⟩⟩;rw[BK,G0,A7,A3,Aaq (by omega)];grind
  |succ m C=>
   intro i cnt out d hi h M;obtain⟨cnt,rfl⟩:∃ c,cnt=c+1:=⟨cnt-1,by omega⟩
   have j:i<l.length:=by omega
   have O:l[i]? = some l[i]:=Aaz j;have D:=Ab5 j;have t:l.drop i=l[i]::l.drop (i+1):=Abl j;rw[BK,G0,A7,A3,Aar j];simp only[BA O];rw[t,A6 (by omega)];generalize l[i]=e at *;obtain⟨w,x⟩:=L e D;have f:=Con.edge e D;obtain⟨W,ev,P⟩:=e;simp only at w x f |-;obtain⟨u,rfl⟩:=Aaw w.2.2.1;obtain⟨v,rfl⟩:=Aaw x.2.2.1;have E:u<N:=by have:=w.2.2.2;omega
   have F:v<N:=by have:=x.2.2.2;omega
   have p:u<out.length:=by rw[h.1];exact E
   have y:v<out.length:=by rw[h.1];exact F
   rw[BF,Aaq (by omega)];simp only[];rw[BF,Aaq (by omega)];simp only[];rw[BR,Aaq (by omega)];simp only[];rw[BR,Aaq (by omega)];simp only[Gp (0:Int) p,Gp (0:Int) y,Lr,D8,BI];by_cases z:out.getD u 0=out.getD v 0;rw[Aar z];obtain⟨b,a,G,H,I⟩:=C (i+1) cnt out d (by omega) h (by omega);refine⟨b,a,G,H,?_⟩;rcases I with⟨Q,R,X⟩|g;refine .inl ⟨Q,R,fun Y q => ?_⟩;rcases AbD.1 q with rfl|q;simpa [cl]using z;grind;grind;rw[Aaq z];have S:u≠v:=by grind
   have r:C8 (out.getD u 0) (out.getD v 0)=if out.getD v 0<out.getD u 0 then out.getD v 0 else out.getD u 0:=rfl
   generalize T:C8 (out.getD u 0) (out.getD v 0)=low at *;have n:v<(out.set u low).length:=by grind
   simp only[Gp (0:Int) n];have Z:=h.2 u E;have A:=h.2 v F;have s:∀ k,k<N->((out.set u low).set v low).getD k 0=if k=u\/k=v then low else out.getD k 0:=by grind
   have o:0<=low/\low<=(u:Int)/\low<=(v:Int)/\Con l (u:Int) low:=by rw[r];split;exact⟨A.1,by omega,A.2.1,f.trans A.2.2⟩;grind
   have U:CI N l ((out.set u low).set v low):=by refine⟨by simp[h.1],fun k J => ?_⟩;rw[s k J];split;rename_i B;rcases B with rfl|rfl;grind;exact⟨o.1,o.2.2.1,f.symm.trans o.2.2.2⟩;exact h.2 k J
   have K:((out.set u low).set v low).sum<out.sum:=by rw[ADZ _ _ _ n,ADZ _ _ _ p];grind
   obtain⟨b,a,G,H,I⟩:=C (i+1) cnt _ true (by omega) U (by omega);grind
theorem AXl(N:Nat)(i:N<=64)(l:List Edge)(n:l.length<1073741824)(o:∀ e∈l,In (N:Int) e.1/\In (N:Int) e.2.1):
  ∀ (m cnt:Nat) (out:List Int),out.sum.toNat=m->CI N l out->m+1<cnt ->
  ∃ a,BK JR cnt ((N:Int),l,out,true,())=some (.inl (a,()))/\CI N l a/\∀ e∈l,cl a e.1=cl a e.2.1:=by
 have b:9223372036854775808<many:=by simp only[many];omega
 intro m;induction m using Nat.strongRecOn with
  |_ m p=>
   intro cnt out s h t;obtain⟨cnt,rfl⟩:∃ c,cnt=c+1:=⟨cnt-1,by omega⟩
   rw[BK,JR];obtain⟨a,d,q,j,r⟩:=AZi N l n o l.length 0 many out false (by omega) h (by omega);have f:BK G0 many ((N:Int),l,out,false,(0:Int),())=_:=q;simp only[Bo,f];rcases r with⟨g,k,u⟩|⟨g,k⟩
   subst g k;obtain⟨cnt,rfl⟩:∃ c,cnt=c+1:=⟨cnt-1,by omega⟩
   rw[BK,JR];grind;subst g;have v:=SU h i;have w:=SU j i;exact p a.sum.toNat (by omega) cnt a rfl j (by omega)
structure gN(n:Int)(l:List Edge)(out:List Int):Prop where
 len:(out.length:Int)=n
 same:∀ a b,In n a->In n b->(cl out a=cl out b↔Con l a b)
 isin:∀ a,In n a->In n (cl out a)
 con:∀ a,In n a->Con l a (cl out a)
 least:∀ a b,In n a->In n b->Con l a b->cl out a<=b
theorem IF(n:Int)(l:List Edge)(x:Sz n)(y:l.length<1073741824)(z:∀ e∈l,In n e.1/\In n e.2.1):∃ out,RD (n,l,())=some (out,())/\gN n l out:=by
 have j:9223372036854775808<many:=by simp only[many];omega
 obtain⟨A,B⟩:=x;obtain⟨N,rfl⟩:=Aaw (show 0<=n by omega);rw[VZ,QD];have o:∀ (m k cnt:Nat),k+m=N->m<cnt->BK G1 cnt ((N:Int),l,(List.range k).map (fun(k:Nat)=>(k:Int)),(k:Int),())=some (.inl ((N:Int),l,(List.range N).map (fun(k:Nat)=>(k:Int)),())):=by
  intro m;induction m with
   |zero=>
    intro k cnt q C;obtain⟨cnt,rfl⟩:∃ c,cnt=c+1:=⟨cnt-1,by omega⟩
    have:k=N:=by omega
    subst this;rw[BK,G1,A3,Aaq (by omega)]
   |succ m D=>
    intro k cnt q C;obtain⟨cnt,rfl⟩:∃ c,cnt=c+1:=⟨cnt-1,by omega⟩
    have g:=D (k+1) cnt (by omega) (by omega);rw[AbJ,Abm]at g;rw[BK,G1,A3,Aar (by omega)];simp only[];rw[A6 (by omega),CM (by simp only[A7,Aa1,Aa8,AbN,Aa9];omega)];exact g
 have E:=o N 0 many (by omega) (by omega);have p:BK G1 many ((N:Int),l,[],(0:Int),())=_:=E;have r:CI N l ((List.range N).map (fun(k:Nat)=>(k:Int))):=by
  refine⟨by simp,fun k q => ?_⟩;have:((List.range N).map (fun(k:Nat)=>(k:Int))).getD k 0=(k:Int):=by grind
  rw[this];exact⟨by omega,by omega,.refl _⟩
 have G:=SU r (by omega);obtain⟨out,F,s,t⟩:=AXl N (by omega) l y z _ many _ rfl r (by omega);simp only[Bo,p,F];have d:∀ a,In (N:Int) a->0<=cl out a/\cl out a<=a/\Con l a (cl out a):=by intro a i;obtain⟨k,rfl⟩:=Aaw i.2.2.1;have:=s.2 k (by have:=i.2.2.2;omega);simpa [cl]using this
 refine⟨out,rfl,by rw[s.1],fun a b f u=>⟨fun h => ?_,fun h=>h.const t⟩,fun a f => ?_,fun a f=>(d a f).2.2,fun a b f u h => ?_⟩;have v:=(d a f).2.2;have w:=(d b u).2.2;rw[<- h]at w;exact v.trans w.symm;have:=d a f;have H:=f.2.2.2;exact⟨A,B,by omega,by omega⟩;have v:cl out a=cl out b:=h.const t;grind
end Go.Pev.Pl
end
end
section
namespace Go.Pev.Pl
def Low(l:List Edge)(k:Nat):Prop:=∀ j:Nat,j<k->¬ Con l (j:Int) (k:Int)
noncomputable def AOk(l:List Edge)(k:Nat):Bool:=@decide (Low l k) (Classical.propDecidable _)
theorem KY(l:List Edge)(k:Nat):AOk l k=true↔Low l k:=by unfold AOk;simp
noncomputable def cc(N:Nat)(l:List Edge):Nat:=(List.range N).countP (AOk l)
noncomputable def fL(l:List Edge)(a b:Int):Bool:=@decide (Con l a b) (Classical.propDecidable _)
theorem M8(l:List Edge)(a b:Int):fL l a b=true↔Con l a b:=by unfold fL;simp
theorem ACg(l:List Edge)(a b:Int):fL l a b=false↔¬ Con l a b:=by rw[<- M8];simp
theorem Con.sub{l d:List Edge}(h:∀ e∈l,e∈d){a b:Int}(c:Con l a b):Con d a b:=c.mono fun e f=>⟨e,h e f,.inl ⟨rfl,rfl⟩⟩
theorem Con.cut{l g:List Edge}(h:∀ e∈l,Con g e.1 e.2.1){a b:Int}(c:Con l a b):Con g a b:=by
 induction c with
  |refl a=>exact .refl a
  |edge e j=>grind
  |symm _ i=>exact i.symm
  |trans _ _ d f=>exact d.trans f
theorem AOj(l:List Edge):∀ v:Nat,∃ m:Nat,m<=v/\Con l (m:Int) (v:Int)/\Low l m:=by
 intro v;induction v using Nat.strongRecOn with
  |ind v c=>by_cases h:Low l v;exact⟨v,Aax _,.refl _,h⟩;have:∃ j:Nat,j<v/\Con l (j:Int) (v:Int):=Ab6 fun d=>h fun j a b=>d ⟨j,a,b⟩;obtain⟨j,a,b⟩:=this;obtain⟨m,g,e,f⟩:=c j a;exact⟨m,by omega,e.trans b,f⟩
theorem Low.le{l:List Edge}{m j:Nat}(h:Low l m)(a:Con l (m:Int) (j:Int)):m<=j:=by refine Nat.le_of_not_lt fun b=>h j b a.symm
theorem Low.uniq{l:List Edge}{a b:Nat}(c:Low l a)(d:Low l b)(h:Con l (a:Int) (b:Int)):a=b:=by have:=c.le h;have:=d.le h.symm;omega
theorem AQk{N:Nat}{l d:List Edge}(h:∀ j k:Nat,j<N->k<N->(Con l (j:Int) (k:Int)↔Con d (j:Int) (k:Int))):cc N l=cc N d:=by
 unfold cc;refine Acx fun k a => ?_;have a:k<N:=by grind
 rw[KY,KY];constructor;intro q j b c;exact q j b ((h j k (by omega) a).2 c);intro q j b c;exact q j b ((h j k (by omega) a).1 c)
theorem AQl{N:Nat}{l c:List Edge}(h:∀ a b,Con l a b↔Con c a b):cc N l=cc N c:=AQk fun _ _ _ _=>h _ _
theorem AVL{l f:List Edge}(h:∀ e,e∈l↔e∈f){a b:Int}:Con l a b↔Con f a b:=⟨fun c=>c.sub fun e d=>(h e).1 d,fun c=>c.sub fun e d=>(h e).2 d⟩
theorem AVU{N:Nat}{l a:List Edge}(h:l.Perm a):cc N l=cc N a:=AQl fun _ _=>AVL fun _=>h.mem_iff
theorem AQj(N:Nat):cc N []=N:=by
 unfold cc;have:(List.range N).countP (AOk [])=(List.range N).length:=by rw[List.countP_eq_length];intro k _;rw[KY];intro j b a;have:=a.nil;omega
 grind
theorem ACZ{P:Nat->Bool}{M:Nat}(c:P M=true):∀ {xs:List Nat},xs.Nodup->M∈xs->xs.countP P=xs.countP (fun k=>P k && !decide (k=M))+1:=by
 intro xs;induction xs with
  |nil=>simp
  |cons x xs d=>
   intro a h;rw[Abj]at a;rw[Adv,Adv];by_cases b:x=M;subst b;have:xs.countP P=xs.countP (fun k=>P k && !decide (k=x)):=by refine Acx fun k e => ?_;grind
   grind;grind
def InE(N:Nat)(e:Edge):Prop:=(0<=e.1/\e.1<(N:Int))/\(0<=e.2.1/\e.2.1<(N:Int))
theorem wP{l:List Edge}{e:Edge}(h:Con l e.1 e.2.1){a b:Int}:Con (l++[e]) a b↔Con l a b:=
 ⟨fun c=>c.cut fun x d=>by rcases Aa7.1 d with d|d;exact .edge x d;grind,fun c=>c.sub fun x d=>Aa7.2 (.inl d)⟩
theorem AFE{N:Nat}{l:List Edge}{e:Edge}(x:InE N e):cc N l=cc N (l++[e])+(if fL l e.1 e.2.1=true then 0 else 1):=by
 by_cases h:Con l e.1 e.2.1;rw[Aa5 ((M8 _ _ _).2 h),AcD];exact AQl fun a b=>(wP h).symm;rw[Aa2 (fun y=>h ((M8 _ _ _).1 y))];obtain⟨⟨z,H⟩,A,I⟩:=x;obtain⟨u,r⟩:=Aaw z;obtain⟨v,s⟩:=Aaw A;have c:∀ {a b:Int},Con (l++[e]) a b↔Con l a b\/(Con l a (u:Int)/\Con l (v:Int) b)\/(Con l a (v:Int)/\Con l (u:Int) b):=by intro a b;rw[Con.snoc,r,s]
 rw[r,s]at h;obtain⟨p,J,f,t⟩:=AOj l u;obtain⟨q,K,g,w⟩:=AOj l v;have B:p≠q:=fun e=>h (f.symm.trans (e▸g));have i:∀ k:Nat,Low (l++[e]) k↔Low l k/\k≠max p q:=by
  intro k;constructor;intro d;refine⟨fun j n m=>d j n (c.2 (.inl m)),fun e => ?_⟩;refine d (min p q) (by omega) (c.2 ?_);by_cases C:p<q;rw[e,AcG (by omega),Nat.max_eq_right (by omega)];exact .inr (.inl ⟨f,g.symm⟩);rw[e,Adu (by omega),Nat.max_eq_left (by omega)];exact .inr (.inr ⟨g,f.symm⟩);rintro⟨d,D⟩ j n m;rcases c.1 m with m|⟨o,c2⟩|⟨o,c2⟩
  exact d j n m;have E:=w.uniq d (g.trans c2);have F:=t.le (f.trans o.symm);omega;have E:=t.uniq d (f.trans c2);have F:=w.le (g.trans o.symm);omega
 have G:AOk l (max p q)=true:=by rw[KY];grind
 unfold cc;rw[ACZ G AcM (by grind)];congr 1;refine Acx fun k _ => ?_;rw[KY,i,Aau,KY];simp
noncomputable def gfl:List Edge->List Edge->List Bool
 |_,[]=>[]
 |b,x::xs=>(!fL b x.1 x.2.1)::gfl (b++[x]) xs
noncomputable def ABj:List Edge->List Edge->List Edge
 |_,[]=>[]
 |b,x::xs=>if fL b x.1 x.2.1=true then ABj (b++[x]) xs else x::ABj (b++[x]) xs
theorem AEr:∀ (xs b:List Edge),(gfl b xs).length=xs.length:=by
 intro xs;induction xs with
  |nil=>intro b;rfl
  |cons x xs a=>intro b;rw[gfl,Aa1,Aa1,a]
theorem APh:∀ (xs b:List Edge) (x:Edge),gfl b (xs++[x])=gfl b xs++[!fL (b++xs) x.1 x.2.1]:=by
 intro xs;induction xs with
  |nil=>intro b x;simp[gfl]
  |cons y xs a=>intro b x;rw[AbO,gfl,gfl,a,AbO];simp
theorem APf:∀ (xs b:List Edge),(ABj b xs).Sublist xs:=by
 intro xs;induction xs with
  |nil=>intro b;exact List.Sublist.refl _
  |cons x xs a=>intro b;rw[ABj];grind
theorem AKU{N:Nat}:∀ (xs b:List Edge),(∀ e∈xs,InE N e)->cc N b=cc N (b++xs)+(ABj b xs).length:=by
 intro xs;induction xs with
  |nil=>intro b _;simp[ABj]
  |cons x xs a=>
   intro b h;have c:b++x::xs=(b++[x])++xs:=by simp
   rw[AFE (h x (by simp)),a (b++[x]) (fun e d=>h e (by simp[d])),c,ABj];grind
theorem AXR{N:Nat}(xs b:List Edge)(h:∀ e∈xs,InE N e):cc N b<=cc N (b++xs)+xs.length:=by have:=AKU xs b h;have:=(APf xs b).length_le;omega
def Fo(N:Nat)(l:List Edge):Prop:=cc N l+l.length=N
theorem Fo.perm{N:Nat}{l a:List Edge}(h:Fo N l)(b:l.Perm a):Fo N a:=by unfold Fo at *;rw[<- AVU b,<- b.length_eq];exact h
theorem AZJ{N:Nat}(l:List Edge)(h:∀ e∈l,InE N e):N<=cc N l+l.length:=by have:=AXR l [] h;rw[AQj,AbW]at this;omega
theorem Fo.front{N:Nat}{a b:List Edge}(h:Fo N (a++b))(c:∀ e∈a,InE N e)(d:∀ e∈b,InE N e):Fo N a:=by unfold Fo at *;have f:=AZJ a c;have g:=AXR b a d;grind
theorem ANh{α:Type}{a l:List α}(h:a.Sublist l):∃ r,l.Perm (a++r):=by
 induction h with
  |slnil=>simp
  |@cons a l x _ ih=>obtain⟨r,b⟩:=ih;exact⟨x::r,(b.cons x).trans (List.perm_middle.symm)⟩
  |@cons_cons a l x _ ih=>simp_all
theorem Fo.sub{N:Nat}{a l:List Edge}(h:Fo N l)(f:a.Sublist l)(d:∀ e∈l,InE N e):Fo N a:=by obtain⟨r,b⟩:=ANh f;exact(h.perm b).front (fun e c=>d e (b.mem_iff.2 (Aa7.2 (.inl c)))) (fun e c=>d e (b.mem_iff.2 (Aa7.2 (.inr c))))
theorem po{N:Nat}{base l:List Edge}{r:Int->Int}(t:∀ a b,(0<=a/\a<(N:Int))->(0<=b/\b<(N:Int))->(r a=r b↔Con base a b))(m:∀ a,(0<=a/\a<(N:Int))->Con base a (r a))
  (q:∀ e∈base,InE N e) (s:∀ e∈l,InE N e) {a b:Int} (u:0<=a/\a<(N:Int)) (v:0<=b/\b<(N:Int)) :
  Con (base++l) a b↔Con (l.map fun e=>(r e.1,r e.2.1,())) (r a) (r b):=by
 constructor;intro h;have g:∀ {x y:Int},Con (base++l) x y->x=y\/Con (l.map fun e=>(r e.1,r e.2.1,())) (r x) (r y):=by
  intro x y i;induction i with
   |refl x=>omega
   |edge e d=>rcases Aa7.1 d with d|d;have:=(t e.1 e.2.1 (q e d).1 (q e d).2).2 (.edge e d);rw[this];exact .inr (.refl _);exact .inr (.edge (l:=l.map fun e=>(r e.1,r e.2.1,())) (r e.1,r e.2.1,()) (AbA.2 ⟨e,d,rfl⟩))
   |symm _ o=>rcases o with h|h;omega;exact .inr h.symm
   |trans _ _ j f=>rcases j with rfl|w;exact f;rcases f with rfl|z;grind;exact .inr (w.trans z)
 rcases g h with rfl|h;exact .refl _;omega;intro h;have n:∀ {x y:Int},Con base x y->Con (base++l) x y:=fun c=>c.sub fun e d=>Aa7.2 (.inl d);have g:∀ {x y:Int},Con (l.map fun e=>(r e.1,r e.2.1,())) x y->Con (base++l) x y:=by
  intro x y i;induction i with
   |refl x=>exact .refl x
   |edge e d=>obtain⟨p,k,rfl⟩:=AbA.1 d;exact((n (m _ (s p k).1)).symm.trans (.edge p (Aa7.2 (.inr k)))).trans (n (m _ (s p k).2))
   |symm _ o=>exact o.symm
   |trans _ _ j f=>exact j.trans f
 exact((n (m a u)).trans (g h)).trans (n (m b v)).symm
abbrev Tie:=Int×Int×Int×Bool×Unit
abbrev zT:Tie:=(0,0,0,false,())
def ahead(p x:Tie):Prop:=p.1<x.1\/(p.1=x.1/\p.2.1<x.2.1)
instance (p x:Tie):Decidable (ahead p x):=inferInstanceAs (Decidable (_\/_))
def ed(t:Tie):Edge:=(t.1,t.2.1,())
def trk(ts:List Tie)(k:Int):List Edge:=(ts.filter fun t=>t.2.2.2.1&&decide (k<=t.2.2.1)).map ed
noncomputable def csz(N:Nat)(l:List Edge)(v:Int):Nat:=(List.range N).countP fun(w:Nat)=>fL l v (w:Int)
end Go.Pev.Pl
end
section

end
section

end
section

end
section

end
section
section
namespace Go.Pev.Pl
structure UF(N:Nat)(s:List Int)(c:Int->Int):Prop where
 len:s.length=N
 lo:∀ k,k<N->0<=s.getD k 0/\s.getD k 0<=(k:Int)
 par:∀ k,k<N->c (s.getD k 0)=c (k:Int)
 root:∀ k,k<N->s.getD k 0=(k:Int)->c (k:Int)=(k:Int)
 le:∀ k,k<N->0<=c (k:Int)/\c (k:Int)<=(k:Int)
theorem sR{s:List Int}{k:Nat}(x:Int)(h:k<s.length)(j:Nat):(s.set k x).getD j 0=if j=k then x else s.getD j 0:=by grind
theorem UF.idem{N:Nat}{s:List Int}{c:Int->Int}(h:UF N s c):∀ (m k:Nat),k<=m->k<N->c (c (k:Int))=c (k:Int):=by
 intro m;induction m with
  |zero=>intro k b a;have:=h.le k a;grind
  |succ m g=>
   intro k b a;have d:=h.lo k a;by_cases f:s.getD k 0=(k:Int)
   have e:=h.root k a f;rw[e,e];obtain⟨j,i⟩:=Aaw d.1;have l:=h.par k a;grind
theorem UF.top{N:Nat}{s:List Int}{c:Int->Int}(h:UF N s c){k:Nat}(d:k<N):s.getD (c (k:Int)).toNat 0=c (k:Int):=by
 have e:=h.le k d;obtain⟨j,f⟩:=Aaw e.1;have hi:=h.idem k k (Aax _) d;rw[f]at hi |-;have a:j<N:=by omega
 have g:=h.lo j a;have l:=h.par j a;obtain⟨i,b⟩:=Aaw g.1;rw[b]at l;have m:=h.le i (by omega);grind
theorem NZ{N:Nat}{c:Int->Int}(F:N<=64):∀ {s:List Int} (_:UF N s c) {v:Nat} (_:v<N),∃ a,b9 (s,(v:Int),())=some (a,c (v:Int),())/\UF N a c/\∀ j,j<N->s.getD j 0=c (j:Int)->a.getD j 0=c (j:Int):=by
 intro s B v C;rw[jW,b8]
 obtain⟨r,e,h⟩:=ABa (step:=W7)
  (fun st=>∃ (a:List Int) (w:Nat),st=(a,(w:Int),())/\w<N/\UF N a c/\c (w:Int)=c (v:Int)/\∀ j,j<N->s.getD j 0=c (j:Int)->a.getD j 0=c (j:Int))
  (fun r=>∃ a,r = .inl (a,c (v:Int),())/\UF N a c/\∀ j,j<N->s.getD j 0=c (j:Int)->a.getD j 0=c (j:Int)) (fun st=>st.2.1.toNat)
  (fun st n=>by
   obtain⟨a,w,rfl,m,d,z,f⟩:=n
   have G:=d.len
   have D:=d.lo w m
   rw[W7]
   simp only[Gp 0 (show w<a.length by omega),Lr,BI]
   by_cases o:a.getD w 0=(w:Int)
   ·right
    rw[Aar o]
    refine⟨_,rfl,a,?_,d,f⟩
    rw[<- z,d.root w m o]
   ·left
    rw[Aaq o]
    obtain⟨p,t⟩:=Aaw D.1
    have g:p<N:=by omega
    have E:=d.lo p g
    obtain⟨q,u⟩:=Aaw E.1
    have x:q<N:=by omega
    simp only[AbF,t,Gp 0 (show p<a.length by omega),Lr,D8,u]
    have l:(a.set w (q:Int)).length=N:=by grind
    have b:=fun j=>sR (q:Int) (show w<a.length by omega) j
    simp only[Gp 0 (show w<(a.set w (q:Int)).length by omega),b,Abc]
    refine⟨_,rfl,⟨_,q,rfl,x,?_,?_,?_⟩,?_⟩
    ·refine⟨l,fun k f => ?_,fun k f => ?_,fun k f i => ?_,d.le⟩
     ·rw[b]
      by_cases e:k=w
      ·omega
      ·rw[Aa2 e];exact d.lo k f
     ·rw[b]
      by_cases e:k=w
      ·subst e
       rw[Aa5 rfl,<- u,d.par p g,<- t,d.par k m]
      ·rw[Aa2 e];exact d.par k f
     ·rw[b]at i
      by_cases e:k=w
      ·omega
      ·rw[Aa2 e]at i;exact d.root k f i
    ·rw[<- z,<- u,d.par p g,<- t,d.par w m]
    ·intro j A y
     rw[b]
     by_cases e:j=w
     ·subst e
      rw[Aa5 rfl]
      have:=f j A y
      have H:=d.top A
      simp_all
     grind
    grind)
  (s,(v:Int),()) ⟨s,v,rfl,C,B,rfl,fun _ _ h=>h⟩ (by simp only[many];omega)
 grind
theorem aH(a b:Int):C8 a b=min a b:=by unfold C8;omega
theorem aI(a b:Int):imax a b=max a b:=by unfold imax;omega
theorem Ex{N i x:Nat}(h:(List.range N)[i]? = some x):x=i:=by grind
def jo(c:Int->Int)(u v:Int):Int->Int:=fun x=>if c x=max (c u) (c v)then min (c u) (c v)else c x
theorem AGQ{N:Nat}(n:N<=64){c:Int->Int}{s:List Int}(q:UF N s c){u v:Nat}(i:u<N)(l:v<N):∃ o b,sO (s,(u:Int),(v:Int),())=some (o,b,())/\UF N o (jo c u v):=by
 obtain⟨C,r,t,_⟩:=NZ n q i;obtain⟨p,w,d,_⟩:=NZ n t l;rw[cB,Zs];simp only[r,w,aH,aI];have D:=d.le u i;have E:=d.le v l;have F:=d.idem u u (Aax _) i;have G:=d.idem v v (Aax _) l;obtain⟨M,y⟩:=Aaw (show 0<=max (c (u:Int)) (c (v:Int)) by omega);obtain⟨m,z⟩:=Aaw (show 0<=min (c (u:Int)) (c (v:Int)) by omega);have A:M<N:=by omega
 have B:m<N:=by omega
 have H:=d.len;have I:c (M:Int)=(M:Int):=by grind
 have J:c (m:Int)=(m:Int):=by grind
 rw[y,z];simp only[Gp 0 (show M<p.length by omega),D8];refine⟨_,_,rfl,?_⟩;have a:=fun j=>sR (m:Int) (show M<p.length by omega) j;have f:∀ x,jo c u v x=if c x=(M:Int)then(m:Int)else c x:=by intro x;unfold jo;omega
 refine⟨by grind,fun k g => ?_,fun k g => ?_,fun k g h => ?_,fun k g => ?_⟩;rw[a];by_cases e:k=M;omega;rw[Aa2 e];exact d.lo k g;rw[a,f,f];by_cases e:k=M;grind;rw[Aa2 e,d.par k g];rw[a]at h;rw[f];by_cases e:k=M;grind;rw[Aa2 e]at h;have K:=d.root k g h;omega;rw[f];have:=d.le k g;omega
theorem zE(N:Nat)(h:N<=64):nF ((N:Int),())=some ((List.range N).map fun(k:Nat)=>(k:Int),()):=by
 rw[je,cQ];have c:CY (N:Int)=true:=(J3 _).2 (by omega);rw[c,EN,Aar (Aax _)];simp only[Aby];have f:Df (A4 (N:Int)) (0:Int)=List.replicate N 0:=by simp[Df,A4]
 rw[f]
 have e:=EC (step:=MH) (fun i (a:List Int)=>(a,(N:Int),(i:Int),())) (List.range N) (fun(k:Nat) a=>.inl (a.set k (k:Int))) (fun a=>.inl (a,())) (fun i a=>a.length=N) (by grind)
  (fun i x a hi g n=>by
   refine⟨fun o b => ?_,fun r b=>by cases b⟩
   cases b
   have:=Ex g
   subst this
   rw[Aa9]at hi
   rw[MH,A3,Aar hi]
   simp only[Gp 0 (show x<a.length by omega),D8]
   rw[A6 (by omega)]
   grind)
  (fun a _=>by rw[MH,Aa9,A3,Aaq (by omega)]) (List.replicate N 0) (by simp)
 have j:A' MH many (List.replicate N 0,(N:Int),(0:Int),())=_:=e;rw[show A2 (List.replicate N (0:Int))=(N:Int) by simp[A2]];rw[j,CV];have l:∀ M,M<=N->(List.range M).foldl (fun(a:List Int) (k:Nat)=>a.set k (k:Int)) (List.replicate N 0)=((List.range M).map fun(k:Nat)=>(k:Int))++List.replicate (N-M) 0:=by
  intro M;induction M with
   |zero=>simp
   |succ M m=>
    intro p;rw[AbJ,AcB,m (by omega)];simp only[Abu,List.foldl_nil,Abm,AbL,AcE];rw[List.set_append_right _ _ (by simp)];obtain⟨d,hd⟩:∃ d,N-M=d+1:=⟨N-M-1,by omega⟩
    rw[hd,show N-(M+1)=d by omega];simp[List.replicate_succ]
 grind
theorem ARK(N:Nat):UF N ((List.range N).map fun(k:Nat)=>(k:Int)) (fun x=>x):=by
 have b:∀ k,k<N->((List.range N).map fun(k:Nat)=>(k:Int)).getD k 0=(k:Int):=by grind
 exact⟨by simp,fun k a=>by grind,fun k a=>b k a,fun k a _=>rfl,fun k a=>by omega⟩
def AFK(N:Nat)(c:Int->Int)(l:List Edge):Prop:=∀ a b,In (N:Int) a->In (N:Int) b->(c a=c b↔Con l a b)
theorem AFK.snoc{N:Nat}{c:Int->Int}{l:List Edge}{e:Edge}(h:AFK N c l)(g:In (N:Int) e.1)(i:In (N:Int) e.2.1):AFK N (jo c e.1 e.2.1) (l++[e]):=by intro a b d f;rw[Con.snoc,<- h a b d f,<- h a _ d g,<- h _ b i f,<- h a _ d i,<- h _ b g f];unfold jo;omega
theorem zC(n:Int)(l:List Edge)(b:Sz n)(d:l.length<1073741824)(c:∀ e∈l,In n e.1/\In n e.2.1):nC (n,l,())=some (0,()):=by
 rw[ja,cK];obtain⟨f,g⟩:=b;rw[BF,Aaq (by omega),BF,Aaq (by omega)]
 have e:=HK (step:=Qe) (fun i=>(n,l,A2 l,(i:Int),())) l (fun _=>false) (fun _=>.inl (10,())) (.inr (.inl ())) (by omega)
  (fun i x hi a=>by
   obtain⟨⟨_,_,h,j⟩,⟨_,_,k,m⟩⟩:=c x (Aay a)
   rw[Qe,A7,A3,Aar hi]
   simp only[BA a,aH,aI]
   rw[BF,Aaq (by omega),BR,Aaq (by omega),A6 (by omega)]
   rfl)
  (by rw[Qe,A7,A3,Aaq (by omega)])
 grind
end Go.Pev.Pl
end
section
namespace Go.Pev.Pl
def sh(n:Int):Prop:=0<=n/\n<=65535
instance (n:Int):Decidable (sh n):=inferInstanceAs (Decidable (_/\_))
theorem kg{α β:Type}(g:β->α):∀ (xs:List β) (a:List α),xs.foldl (fun a x=>a++[g x]) a=a++xs.map g:=by
 intro xs;induction xs with
  |nil=>simp
  |cons x xs b=>grind
end Go.Pev.Pl
end
section
namespace Go.Pev.Pl
abbrev Res:=Int×Int×List Int×Unit
def val(r:Res):Prop:=(0<=r.1/\r.1<=255)/\sh r.2.1/\sh (r.2.2.1.length:Int)/\∀ x∈r.2.2.1,sh x
instance (r:Res):Decidable (val r):=inferInstanceAs (Decidable (_/\_/\_/\_))
end Go.Pev.Pl
end
section
namespace Go.Pev.Pl
theorem C'(a:Int):ieq a a=true:=by rw[DF];simp
end Go.Pev.Pl
end
section
namespace Go.Pev.Pl
open Go.RowKit Tok
section
variable {n:Int} {rings:List (List Int)}
theorem eJ{l:List Edge}{out:List Int}(h:FC n rings l)(c:gN n l out){A:List Int}{u:Int}(d:A∈rings)(a:In n u)(e:u∈A):hd A=cl out u:=by have b:=h.fr.rg A d;have f:=Vz b;have g:=om b.2.1;have i:Con l u (hd A):=(h.sam u (hd A) a f).1 ⟨A,d,e,g⟩;have q:=c.least u (hd A) a f i;have j:=c.isin u a;obtain⟨K,k,m,o⟩:=(h.sam u _ a j).2 (c.con u a);have:=h.fr.one d k a.2.2.2 e m;subst this;have p:=(Hf b.2.1).2 _ o;rw[b.2.2.1]at p;have:hd A=A.headD 0:=rfl;omega
end
end Go.Pev.Pl
end
section
namespace Go.Pev.Pl
def Lf(n:Nat):Int:=((@Tb idI ((n:Int),())).getD (0,())).1
theorem AaW:((List.range 65).all fun k=>decide (@Tb idI ((k:Int),())=some (Lf k,())))=true:=by kernel_rfl
theorem AZf:((List.range 65).all fun k=>decide (@oH idI ((k:Int),())=some (Lf k,())))=true:=by kernel_rfl
theorem AF1(n:Nat)(h:n<=64):Tb ((n:Int),())=some (Lf n,()):=by rw[show Tb ((n:Int),()) = @Tb idI ((n:Int),())from Abx (fun i=>@Tb i ((n:Int),())) dg];exact AdJ (AbK.1 AaW n (by grind))
theorem u5(n:Nat)(h:n<=64):oH ((n:Int),())=some (Lf n,()):=by rw[show oH ((n:Int),()) = @oH idI ((n:Int),())from Abx (fun i=>@oH i ((n:Int),())) dg];exact AdJ (AbK.1 AZf n (by grind))
def AVN(a b:Int):Int:=if a<b then -1 else if b<a then 1 else 0
theorem pq(a b:Int):Ed (a,b,())=some (AVN a b,()):=by rw[Ir,Hu];simp only[LI,Nk,C',Aav];unfold AVN;rw[BF,BF];grind
theorem ATm(a b:Int):orI ([a,b],())=some (if a=0 then b else a,()):=by
 rw[n8,uh]
 have e:=HK (step:=Lj) (fun i=>(0,[a,b],A2 [a,b],(i:Int),())) [a,b] (fun x => !decide (x=0)) (fun i=>.inl ([a,b].getD i 0,())) (.inr (.inl (0,()))) (by simp)
  (fun i x hi c=>by
   rw[Lj,A7,A3,Aar hi]
   simp only[BA c,BI]
   have d:i<2:=hi
   rw[A6 (by omega)]
   grind)
  (by rw[Lj,A7,A3,Aaq (by omega)])
 grind
theorem oL(p x:Tie):∃ y,UH (p,x,())=some (y,())/\ile 0 y = !decide (ahead p x):=by rw[Ys,Ss];simp only[pq,ATm];refine⟨_,rfl,?_⟩;rw[BR];by_cases h:ahead p x;rw[Aar h];unfold ahead at h;unfold AVN;grind;rw[Aaq h];unfold ahead at h;unfold AVN;grind
def Ru(N:Nat)(ts:List Tie)(i:Nat):Prop:=
 0<=(ts.getD i zT).1/\(ts.getD i zT).1<(ts.getD i zT).2.1/\(ts.getD i zT).2.1<(N:Int)/\0<=(ts.getD i zT).2.2.1/\(ts.getD i zT).2.2.1<=Lf N/\(i=0\/ahead (ts.getD (i-1) zT) (ts.getD i zT))
instance (N:Nat)(ts:List Tie)(i:Nat):Decidable (Ru N ts i):=inferInstanceAs (Decidable (_/\_/\_/\_/\_/\_))
def trs(ts:List Tie)(k:Nat):List Edge:=(List.range k).foldl (fun a i=>if(ts.getD i zT).2.2.2.1=true then a++[ed (ts.getD i zT)]else a) []
theorem ri{α β ρ:Type}(P:β->Prop)[DecidablePred P](g:β->α->α)(fin:α->ρ)(b:ρ):∀ (xs:List β) (a:α),walk (fun x a=>if P x then .inl (g x a)else .inr b) fin xs a=if ∀ x∈xs,P x then fin (xs.foldl (fun a x=>g x a) a)else b:=by
 intro xs;induction xs with
  |nil=>intro a;simp[walk]
  |cons x xs c=>intro a;rw[walk];grind
theorem bT(ts:List Tie)(k:Nat):trs ts (k+1)=if(ts.getD k zT).2.2.2.1=true then trs ts k++[ed (ts.getD k zT)]else trs ts k:=by unfold trs;rw[AbJ,AcB];rfl
theorem TZ(ts:List Tie):∀ k,(trs ts k).length<=k:=by
 intro k;induction k with
  |zero=>exact Aax _
  |succ k a=>rw[bT];grind
theorem ARi(ts:List Tie)(e:Edge):∀ k,e∈trs ts k->∃ i,i<k/\e=ed (ts.getD i zT):=by
 intro k;induction k with
  |zero=>intro h;simp[trs]at h
  |succ k a=>intro h;rw[bT]at h;grind
def oks(N:Nat)(ts:List Tie):Prop:=∀ i∈List.range ts.length,Ru N ts i
instance (N:Nat)(ts:List Tie):Decidable (oks N ts):=inferInstanceAs (Decidable (∀ i∈List.range ts.length,Ru N ts i))
theorem u7(N:Nat)(l:N<=64)(ts:List Tie)(m:ts.length<=400):
  A' Hh many ((N:Int),ts,Lf N,ts,A2 ts,(0:Int),())=some (if oks N ts then .inr (.inl ((N:Int),ts,()))else .inl (false,())):=by
 have e:=EC (step:=Hh) (fun i (_:Unit)=>((N:Int),ts,Lf N,ts,A2 ts,(i:Int),())) (List.range ts.length) (fun i a=>if Ru N ts i then .inl a else .inr (.inl (false,()))) (fun _=>.inr (.inl ((N:Int),ts,()))) (fun _ _=>True) (by grind)
  (fun i x a hi c _=>by
   have:=Ex c
   subst this
   rw[Aa9]at hi
   have step:Hh ((N:Int),ts,Lf N,ts,A2 ts,(x:Int),())=if Ru N ts x then some (.inl ((N:Int),ts,Lf N,ts,A2 ts,((x+1:Nat):Int),()))else some (.inr (.inl (false,()))):=by
    rw[Hh,A7,A3,Aar hi]
    simp only[Gp zT hi]
    obtain⟨t,b⟩:∃ t,ts.getD x zT=t:=⟨_,rfl⟩
    have n:Ru N ts x↔(0<=t.1/\t.1<t.2.1/\t.2.1<(N:Int)/\0<=t.2.2.1/\t.2.2.1<=Lf N/\(x=0\/ahead (ts.getD (x-1) zT) t)):=by unfold Ru;rw[b]
    rw[b]
    rw[BF,BR,BR,BF,BF]
    by_cases d:t.1<0
    ·grind
    rw[Aaq d]
    by_cases f:t.2.1<=t.1
    ·grind
    rw[Aaq f]
    by_cases g:(N:Int)<=t.2.1
    ·grind
    rw[Aaq g]
    by_cases h:t.2.2.1<0
    ·grind
    rw[Aaq h]
    by_cases j:Lf N<t.2.2.1
    ·grind
    rw[Aaq j]
    simp only[]
    rw[A6 (by omega),BF]
    by_cases o:x=0
    ·grind
    ·rw[Aar (by omega),BM (by omega),show((x:Int)-1)=((x-1:Nat):Int) by omega]
     simp only[Gp zT (show x-1<ts.length by omega)]
     obtain⟨y,p,q⟩:=oL (ts.getD (x-1) zT) t
     grind
   grind)
  (fun a _=>by rw[Hh,Aa9,A7,A3,Aaq (by omega)]) () trivial
 have k:A' Hh many ((N:Int),ts,Lf N,ts,A2 ts,(0:Int),())=_:=e;rw[k,ri (Ru N ts) (fun _ a=>a)];rfl
theorem Tz(N:Nat)(l:N<=64)(ts:List Tie)(w:ts.length<=400):
  A' Fy many ((N:Int),ts,[],(0:Int),())=some (if oks N ts then .inr (.inl ((N:Int),ts,trs ts ts.length,()))else .inl (false,())):=by
 have e:=EC (step:=Fy) (fun i (a:List Edge)=>((N:Int),ts,a,(i:Int),())) (List.range ts.length) (fun i a=>if Ru N ts i then .inl (if(ts.getD i zT).2.2.2.1=true then a++[ed (ts.getD i zT)]else a)else .inr (.inl (false,()))) (fun a=>.inr (.inl ((N:Int),ts,a,()))) (fun i a=>a.length<=i) (by grind)
  (fun i x a hi m y=>by
   have:=Ex m
   subst this
   rw[Aa9]at hi
   have step:Fy ((N:Int),ts,a,(x:Int),())=if Ru N ts x then some (.inl ((N:Int),ts,if(ts.getD x zT).2.2.2.1=true then a++[ed (ts.getD x zT)]else a,((x+1:Nat):Int),()))else some (.inr (.inl (false,()))):=by
    rw[Fy,A7,A3,Aar hi]
    simp only[Gp zT hi,AF1 N l]
    obtain⟨t,g⟩:∃ t,ts.getD x zT=t:=⟨_,rfl⟩
    have c:Ru N ts x↔(0<=t.1/\t.1<t.2.1/\t.2.1<(N:Int)/\0<=t.2.2.1/\t.2.2.1<=Lf N/\(x=0\/ahead (ts.getD (x-1) zT) t)):=by unfold Ru;rw[g]
    rw[g]
    rw[BF,BR,BR,BF,BF]
    by_cases n:t.1<0
    ·grind
    rw[Aaq n]
    by_cases o:t.2.1<=t.1
    ·grind
    rw[Aaq o]
    by_cases q:(N:Int)<=t.2.1
    ·grind
    rw[Aaq q]
    by_cases r:t.2.2.1<0
    ·grind
    rw[Aaq r]
    by_cases s:Lf N<t.2.2.1
    ·grind
    rw[Aaq s]
    simp only[A7]
    have b:fits ((a.length:Int)+(([(t.1,t.2.1,())]:List Edge).length:Int))=true:=CM (by grind)
    rw[A6 (by omega),BF]
    by_cases u:x=0
    ·subst u
     rw[Aaq (by omega),Aa5 (c.2 ⟨by omega,by omega,by omega,by omega,by omega,.inl rfl⟩)]
     cases d:t.2.2.2.1
     ·simp
     ·simp only[b]
      simp[ed,B2]
    ·rw[Aar (by omega),BM (by omega),show((x:Int)-1)=((x-1:Nat):Int) by omega]
     simp only[Gp zT (show x-1<ts.length by omega),BI]
     generalize ts.getD (x-1) zT=p at c |-
     rw[BF,BR]
     by_cases j:t.1<p.1
     ·rw[Aar j,Aa2 (fun h=>by rcases(c.1 h).2.2.2.2.2 with h|h|h<;>omega)]
     rw[Aaq j]
     by_cases f:p.1=t.1
     ·rw[Aar f]
      by_cases k:t.2.1<=p.2.1
      ·rw[Aar k,Aa2 (fun h=>by rcases(c.1 h).2.2.2.2.2 with h|h|h<;>omega)]
      rw[Aaq k,Aa5 (c.2 ⟨by omega,by omega,by omega,by omega,by omega,.inr (.inr ⟨f,by omega⟩)⟩)]
      cases d:t.2.2.2.1
      ·simp
      ·simp only[b]
       simp[ed,B2]
     ·rw[Aaq f,Aa5 (c.2 ⟨by omega,by omega,by omega,by omega,by omega,.inr (.inl (by omega))⟩)]
      cases d:t.2.2.2.1
      ·simp
      ·simp only[b]
       simp[ed,B2]
   grind)
  (fun a _=>by rw[Fy,Aa9,A7,A3,Aaq (by omega)]) [] (Aax _)
 have v:A' Fy many ((N:Int),ts,[],(0:Int),())=_:=e;rw[v,ri (Ru N ts) (fun i a=>if(ts.getD i zT).2.2.2.1=true then a++[ed (ts.getD i zT)]else a)];rfl
end Go.Pev.Pl
end
end
section
section
namespace Go.Pev.Pl
theorem AEU{N:Nat}{ts:List Tie}(c:N<=64){i:Nat}(h:Ru N ts i):In (N:Int) (ed (ts.getD i zT)).1/\In (N:Int) (ed (ts.getD i zT)).2.1:=by obtain⟨a,d,b,_⟩:=h;exact⟨⟨by omega,by omega,a,by show(ts.getD i zT).1<_;omega⟩,⟨by omega,by omega,by show 0<=(ts.getD i zT).2.1;omega,b⟩⟩
theorem bU{N:Nat}{ts:List Tie}(a:N<=64)(h:oks N ts):∀ e∈trs ts ts.length,In (N:Int) e.1/\In (N:Int) e.2.1:=by intro e b;obtain⟨i,hi,rfl⟩:=ARi ts e _ b;exact AEU a (h i (by simp[hi]))
theorem AY6{N:Nat}{ts:List Tie}(a:N<=64)(h:oks N ts):∀ e∈ts.map ed,In (N:Int) e.1/\In (N:Int) e.2.1:=by intro e b;obtain⟨t,c,rfl⟩:=AbA.1 b;obtain⟨i,hi,rfl⟩:=Ab1 c;have:=AEU a (h i (by simp[hi]));simpa [hi]using this
theorem dY{N:Nat}(ts:List Tie)(k:ts.length<=400)(h:oks N ts):db (((N:Int),(ts,())),(0:Int),())=some (trs ts ts.length,()):=by
 rw[kI,da]
 have e:=EC (step:=Mb) (fun i (a:List Edge)=>((0:Int),a,ts,A2 ts,(i:Int),())) (List.range ts.length) (fun i a=>.inl (if(ts.getD i zT).2.2.2.1=true then a++[ed (ts.getD i zT)]else a)) (fun a=>.inl (a,())) (fun i a=>a.length<=i) (by simp;omega)
  (fun i x a hi f l=>by
   refine⟨fun m c => ?_,fun r c=>(by cases c)⟩
   cases c
   have:=Ex f
   subst this
   rw[Aa9]at hi
   have d:=(h x (by simp[hi])).2.2.2.1
   constructor
   ·rw[Mb,A7,A3,Aar hi]
    simp only[Gp zT hi,A7]
    have b:fits ((a.length:Int)+(([((ts.getD x zT).1,(ts.getD x zT).2.1,())]:List Edge).length:Int))=true:=CM (by simp;omega)
    rw[A6 (by omega),BR,Aar d]
    cases g:(ts.getD x zT).2.2.2.1
    ·simp
    ·simp only[b]
     simp[ed,B2]
   ·split
    ·rw[Aa3];simp;omega
    ·omega)
  (fun a _=>by rw[Mb,Aa9,A7,A3,Aaq (by omega)]) [] (Aax _)
 have j:A' Mb many ((0:Int),[],ts,A2 ts,(0:Int),())=_:=e;simp only[j];rw[CV (fun i a=>if(ts.getD i zT).2.2.2.1=true then a++[ed (ts.getD i zT)]else a)];rfl
def cnt(out:List Int)(N:Nat):Nat:=((List.range N).filter fun k=>decide (out.getD k 0=(k:Int))).length
theorem sj{N:Nat}{c:List (List Int)}{l:List Edge}{out:List Int}(h:FC (N:Int) c l)(f:gN (N:Int) l out):c.length=cnt out N:=by
 have d:=h.fr.sz;have m:(c.map hd).Perm (((List.range N).filter fun k=>decide (out.getD k 0=(k:Int))).map fun(k:Nat)=>(k:Int)):=by
  rw[Acw];intro a;simp only[AbA,AbS,AbI,Aat];constructor;rintro⟨A,e,rfl⟩;have g:=h.fr.rg A e;have i:In (N:Int) (hd A):=Vz g;have n:=om g.2.1;have:=eJ h f e i n;obtain⟨_,_,q,r⟩:=i;refine⟨(hd A).toNat,⟨by omega,?_⟩,by omega⟩;rw[show out.getD (hd A).toNat 0=cl out (hd A)from rfl,<- this];omega;rintro⟨k,⟨s,o⟩,rfl⟩;have j:In (N:Int) (k:Int):=⟨d.1,d.2,by omega,by omega⟩
  obtain⟨A,e,p⟩:=h.fr.cov _ j;refine⟨A,e,?_⟩;rw[eJ h f e j p];unfold cl;rw[Abn];exact o;exact(AcA.2 h.fr.up).imp (fun h=>by omega);refine List.Pairwise.map _ (S:=fun a b=>a≠b) (R:=fun a b=>a≠b) (fun a b h t=>h (by omega)) ?_;exact(AcM).filter _
 have:=m.length_eq;rw[AbN,AbN]at this;exact this
theorem R3(N:Nat)(j:N<=64)(p:List Tie)(q:List Edge)(out:List Int)(l:out.length=N):A' HX many ((N:Int),p,q,out,(0:Int),(0:Int),())=some (.inl ((N:Int),p,q,(cnt out N:Int),())):=by
 have e:=EC (step:=HX) (fun i (a:Nat)=>((N:Int),p,q,out,(a:Int),(i:Int),())) (List.range N) (fun k a=>.inl (if out.getD k 0=(k:Int)then a+1 else a)) (fun a=>.inl ((N:Int),p,q,(a:Int),())) (fun i a=>a<=i) (by simp;omega)
  (fun i x a hi d m=>by
   refine⟨fun n b => ?_,fun r b=>(by cases b)⟩
   cases b
   have:=Ex d
   subst this
   rw[Aa9]at hi
   constructor
   ·rw[HX,A3,Aar hi]
    simp only[Gp 0 (show x<out.length by omega),Lr,BI]
    rw[A6 (by omega),A6 (by omega)]
    by_cases h:out.getD x 0=(x:Int)
    ·rw[Aar h,Aa5 h]
    ·rw[Aaq h,Aa2 h]
   ·split<;>omega)
  (fun a _=>by rw[HX,Aa9,A3,Aaq (by omega)]) 0 (Aax _)
 have f:A' HX many ((N:Int),p,q,out,(0:Int),(0:Int),())=_:=e;rw[f,CV (fun k a=>if out.getD k 0=(k:Int)then a+1 else a)];have c:∀ (xs:List Nat) (a:Nat),xs.foldl (fun a k=>if out.getD k 0=(k:Int)then a+1 else a) a=a+(xs.filter fun k=>decide (out.getD k 0=(k:Int))).length:=by
  intro xs;induction xs with
   |nil=>intro a;rfl
   |cons x xs g=>
    intro a;rw[Abu,g,Ac6];by_cases h:out.getD x 0=(x:Int)
    simp only[h,Abc,Aa6,Aa1];omega;simp only[h,AbE,AbV,AbB]
 rw[c,Abo];rfl
theorem fZ(n:Int)(ts:List Tie)(r:ts.length<4611686018427387904):∃ b:Bool,Fs ((n,(ts,())),())=some (b,())/\D3 ((n,(ts,())),())=some (b,())/\(b=true->∃ N:Nat,n=(N:Int)/\1<=N/\N<=64/\ts.length<=400/\oks N ts):=by
 by_cases e:¬ (1<=n/\n<=64);refine⟨false,?_,?_,fun h=>by cases h⟩;rw[HY,HZ,BF,BF];by_cases h:n<1;simp only[Aar h];simp only[Aaq h,Aar (show 64<n by omega)];rw[Mc,Md];simp only[XY,UG,BR];by_cases h:1<=n;simp only[Aar h,Aaq (show ¬ n<=64 by omega),AbF];simp only[Aaq h,AbF];have e:=Acy.1 e;obtain⟨N,rfl⟩:=Aaw (show 0<=n by omega);have c:dc ((N:Int),())=some (true,()):=by simp only[XY,UG,BR,Aar e.1,Aar e.2]
 by_cases f:¬ ts.length<=400;refine⟨false,?_,?_,fun h=>by cases h⟩;rw[HY,HZ];simp only[BF,A7];rw[Aaq (show ¬ (N:Int)<1 by omega),Aaq (show ¬ 64<(N:Int) by omega),Aar (show 400<(ts.length:Int) by omega)];rw[Mc,Md];simp only[c,Aav,BF,A7];rw[Aar (show 400<(ts.length:Int) by omega)];have f:=Acy.1 f;have R:=Tz N (by omega) ts f;have L:=u7 N (by omega) ts f;by_cases d:¬ oks N ts;rw[Aa2 d]at R L;refine⟨false,?_,?_,fun h=>by cases h⟩;rw[HY,HZ];simp only[BF,A7];rw[Aaq (show ¬ (N:Int)<1 by omega),Aaq (show ¬ 64<(N:Int) by omega),Aaq (show ¬ 400<(ts.length:Int) by omega)];simp only[R];rw[Mc,Md];simp only[c,Aav,BF,A7,u5 N (by omega)];rw[Aaq (show ¬ 400<(ts.length:Int) by omega)];rw[A7]at L;simp only[L];have d:=Acy.1 d;rw[Aa5 d]at R L;have g:=bU (show N<=64 by omega) d;have o:=TZ ts ts.length;obtain⟨out,p,i⟩:=IF (N:Int) (trs ts ts.length) e (by omega) g;rcases(AEx (N:Int) (trs ts ts.length) e (by omega)).symm with⟨j,_⟩|⟨_,k,q,l⟩
 exact absurd g j;have a:=sj l i;have m:out.length=N:=by have:=i.len;omega
 refine⟨decide ((cnt out N:Int)=(N:Int)-(trs ts ts.length).length),?_,?_,fun _=>⟨N,rfl,by omega,by omega,f,d⟩⟩;rw[HY,HZ];simp only[BF,A7];rw[Aaq (show ¬ (N:Int)<1 by omega),Aaq (show ¬ 64<(N:Int) by omega),Aaq (show ¬ 400<(ts.length:Int) by omega)];simp only[R,p,R3 N (by omega) _ _ out m,BI];rw[BM (by omega)];rw[Mc,Md];simp only[c,Aav,BF,A7,u5 N (by omega)];rw[Aaq (show ¬ 400<(ts.length:Int) by omega)];rw[A7]at L;simp only[L,dY ts f d,q,C',BI,a];rw[BM (by omega)]
end Go.Pev.Pl
end
section
namespace Go.Pev.Pl
theorem gN.unique{N:Nat}{l:List Edge}{a b:List Int}(h:1<=N)(i:N<=64)(d:gN (N:Int) l a)(e:gN (N:Int) l b):a=b:=by
 have j:=d.len;have lb:=e.len;refine pP (0:Int) (by omega) fun k m => ?_;have c:In (N:Int) (k:Int):=⟨by omega,by omega,by omega,by omega⟩
 have f:=d.least _ _ c (e.isin _ c) (e.con _ c);have g:=e.least _ _ c (d.isin _ c) (d.con _ c);unfold cl at f g;rw[Abn]at f g;omega
theorem kf(xs:List Tie)(a:List Edge):xs.foldl (fun a x=>a++[ed x]) a=a++xs.map ed:=kg ed xs a
theorem dj(n:Int)(ts:List Tie)(f:ts.length<=400)(h:D3 ((n,(ts,())),())=some (true,())):Pg ((n,(ts,())),())=some (ts.map ed,()):=by
 rw[kJ,dk];simp only[h,Aav]
 have e:=EC (step:=Mf) (fun i (a:List Edge)=>(a,ts,A2 ts,(i:Int),())) ts (fun x a=>.inl (a++[ed x])) (fun a=>.inl (a,())) (fun i a=>a.length<=i) (by omega)
  (fun i x a hi c g=>by
   refine⟨fun j b => ?_,fun r b=>(by cases b)⟩
   cases b
   constructor
   ·rw[Mf]
    simp only[A7]
    rw[A3,Aar hi]
    simp only[BA c]
    rw[CM (by simp;omega),A6 (by omega)]
    rfl
   ·rw[Aa3];simp;omega)
  (fun a _=>by rw[Mf,A7,A3,Aaq (by omega)]) [] (Aax _)
 have d:A' Mf many ([],ts,A2 ts,(0:Int),())=_:=e;simp only[d];rw[CV (fun x a=>a++[ed x]),kf];rfl
theorem vq(n:Int)(ts:List Tie)(f:ts.length<=400)(h:Fs ((n,(ts,())),())=some (true,())):aO ((n,(ts,())),())=some (ts.map ed,()):=by
 rw[ee,Xz];simp only[h,Aav]
 have e:=EC (step:=Kl) (fun i (a:List Edge)=>(n,ts,a,(i:Int),())) ts (fun x a=>.inl (a++[ed x])) (fun a=>.inl (a,())) (fun i a=>a.length<=i) (by omega)
  (fun i x a hi c g=>by
   refine⟨fun j b => ?_,fun r b=>(by cases b)⟩
   cases b
   constructor
   ·rw[Kl]
    simp only[A7]
    rw[A3,Aar hi]
    simp only[BA c]
    rw[CM (by simp;omega),A6 (by omega)]
    rfl
   ·rw[Aa3];simp;omega)
  (fun a _=>by rw[Kl,A7,A3,Aaq (by omega)]) [] (Aax _)
 have d:A' Kl many (n,ts,[],(0:Int),())=_:=e;simp only[d];rw[CV (fun x a=>a++[ed x]),kf];rfl
def InV(N:Nat)(x:Int):Prop:=0<=x/\x<(N:Int)
instance (N:Nat)(x:Int):Decidable (InV N x):=inferInstanceAs (Decidable (_/\_))
end Go.Pev.Pl
end
section
namespace Go.Pev.Pl
end Go.Pev.Pl
end
section
namespace Go.Pev.Pl
theorem kT(l:List Edge)(u v:Int)(j:l.length<1073741824):kU (l,(u,(v,())),())=some (decide (((u,(v,())):Edge)∈l),()):=by
 rw[vS,oq]
 have e:=HK (step:=Pq) (fun i=>(l,u,v,(i:Int),())) l (fun x=>decide (x=(u,v,()))) (fun _=>.inl (true,())) (.inr (.inl ())) (by omega)
  (fun i x hi g=>by
   rw[Pq,A7,A3,Aar hi]
   simp only[BA g,BI]
   rw[A6 (by omega)]
   obtain⟨a,b,⟨⟩⟩:=x
   by_cases d:a=u
   ·by_cases f:b=v
    ·simp[d,f]
    ·simp[d,f]
   ·simp[d])
  (by rw[Pq,A7,A3,Aaq (by omega)])
 have h:A' Pq many (l,u,v,(0:Int),())=_:=e;simp only[h];have c:(l.any fun x=>decide (x=(u,v,())))=decide (((u,(v,())):Edge)∈l):=by rw[AcH];simp
 rw[c];generalize decide (((u,(v,())):Edge)∈l)=b;cases b<;>rfl
theorem xA{N:Nat}(o:1<=N)(p:N<=64)(ts:List Tie)(l:List Edge)(q:l.length<1073741824)(j:Fs (((N:Int),(ts,())),())=some (true,())):
  aY (((N:Int),(ts,())),l,())=some (if ∀ e∈l,In (N:Int) e.1/\In (N:Int) e.2.1 then 0 else 10,()):=by
 rw[fc,YG];simp only[j,Aav]
 have e:=HK (step:=Kx) (fun i=>(l,(N:Int),ts,(i:Int),())) l (fun x => !decide (In (N:Int) x.1/\In (N:Int) x.2.1)) (fun _=>.inl (10,())) (.inr (.inl ())) (by omega)
  (fun i x hi a=>by
   rw[Kx,A7,A3,Aar hi]
   simp only[BA a]
   rw[BF,BR,BF,BR,A6 (by omega)]
   by_cases c:x.1<0
   ·rw[Aar c,Aaq (show ¬ (In (N:Int) x.1/\In (N:Int) x.2.1)from fun h=>by have:=h.1.2.2.1;omega)];rfl
   rw[Aaq c]
   by_cases d:(N:Int)<=x.1
   ·rw[Aar d,Aaq (show ¬ (In (N:Int) x.1/\In (N:Int) x.2.1)from fun h=>by have:=h.1.2.2.2;omega)];rfl
   rw[Aaq d]
   by_cases f:x.2.1<0
   ·rw[Aar f,Aaq (show ¬ (In (N:Int) x.1/\In (N:Int) x.2.1)from fun h=>by have:=h.2.2.2.1;omega)];rfl
   rw[Aaq f]
   by_cases g:(N:Int)<=x.2.1
   ·rw[Aar g,Aaq (show ¬ (In (N:Int) x.1/\In (N:Int) x.2.1)from fun h=>by have:=h.2.2.2.2;omega)];rfl
   rw[Aaq g,Aar (show In (N:Int) x.1/\In (N:Int) x.2.1 from⟨⟨by omega,by omega,by omega,by omega⟩,⟨by omega,by omega,by omega,by omega⟩⟩)]
   rfl)
  (by rw[Kx,A7,A3,Aaq (by omega)])
 have k:A' Kx many (l,(N:Int),ts,(0:Int),())=_:=e;rw[k];by_cases h:∀ e∈l,In (N:Int) e.1/\In (N:Int) e.2.1;have:(l.any fun x => !decide (In (N:Int) x.1/\In (N:Int) x.2.1))=false:=by rw[List.any_eq_false];intro x a;simp[h x a]
 rw[this,Aa5 h];rfl;have:(l.any fun x => !decide (In (N:Int) x.1/\In (N:Int) x.2.1))=true:=by rw[Ads];refine Ab6 fun m=>h fun e n => ?_;refine Ab6 fun b=>m ⟨e,n,by rw[Aaq b];rfl⟩
 rw[this,Aa2 h];rfl
def Lm(l:List Edge)(u v:Int):Prop:=((u,(v,())):Edge)∈l\/((v,(u,())):Edge)∈l
instance (l:List Edge)(u v:Int):Decidable (Lm l u v):=inferInstanceAs (Decidable (_\/_))
def XI(N:Nat)(l:List Edge)(u:Nat):List Edge:=((List.range (N-(u+1))).filter fun i=>decide (Lm l (u:Int) ((u+1+i:Nat):Int))).map fun(i:Nat)=>((u:Int),((u+1+i:Nat):Int),())
def Dt(N:Nat)(l:List Edge):List Edge:=(List.range N).flatMap fun u=>XI N l u
theorem VF{α β:Type}(P:β->Prop)[DecidablePred P](g:β->α):∀ (xs:List β) (a:List α),xs.foldl (fun a x=>if P x then a++[g x]else a) a=a++(xs.filter fun x=>decide (P x)).map g:=by
 intro xs;induction xs with
  |nil=>intro a;simp
  |cons x xs b=>intro a;rw[Abu,b,Ac6];by_cases h:P x;simp[h];simp[h]
theorem tG(N:Nat)(n:N<=64)(l:List Edge)(g:l.length<1073741824)(u:Nat)(o:u<N)(a:List Edge)(j:a.length<=64*u):
  A' Hb many ((N:Int),l,a,(u:Int),((u+1:Nat):Int),())=some (.inl ((N:Int),l,a++XI N l u,(u:Int),())):=by
 have e:=EC (step:=Hb) (fun i (a:List Edge)=>((N:Int),l,a,(u:Int),((u+1+i:Nat):Int),())) (List.range (N-(u+1))) (fun i a=>.inl (if Lm l (u:Int) ((u+1+i:Nat):Int)then a++[((u:Int),((u+1+i:Nat):Int),())]else a)) (fun a=>.inl ((N:Int),l,a,(u:Int),())) (fun i a=>a.length<=64*u+i) (by simp;omega)
  (fun i x a hi k j=>by
   refine⟨fun p f => ?_,fun r f=>(by cases f)⟩
   cases f
   have:=Ex k
   subst this
   rw[Aa9]at hi
   constructor
   ·rw[Hb,A3,Aar (show u+1+x<N by omega)]
    simp only[kT l _ _ g,A7]
    have b:fits ((a.length:Int)+(([((u:Int),((u+1+x:Nat):Int),())]:List Edge).length:Int))=true:=CM (by simp;omega)
    rw[b,A6 (by omega)]
    by_cases c:(((u:Int),(((u+1+x:Nat):Int),())):Edge)∈l
    ·rw[Aar c,Aa5 (show Lm l (u:Int) ((u+1+x:Nat):Int)from .inl c)]
     rfl
    ·rw[Aaq c]
     by_cases d:(((((u+1+x:Nat):Int),((u:Int),()))):Edge)∈l
     ·rw[Aar d,Aa5 (show Lm l (u:Int) ((u+1+x:Nat):Int)from .inr d)]
      rfl
     ·rw[Aaq d,Aa2 (show ¬ Lm l (u:Int) ((u+1+x:Nat):Int)from fun h=>by rcases h with h|h;exact c h;exact d h)]
      rfl
   ·split
    ·rw[Aa3];simp;omega
    ·omega)
  (fun a _=>by rw[Hb,Aa9,A3,Aaq (by omega)]) a (by omega)
 have m:A' Hb many ((N:Int),l,a,(u:Int),((u+1:Nat):Int),())=_:=e;rw[m,CV (fun i a=>if Lm l (u:Int) ((u+1+i:Nat):Int)then a++[((u:Int),((u+1+i:Nat):Int),())]else a),VF (fun i:Nat=>Lm l (u:Int) ((u+1+i:Nat):Int)) (fun i:Nat=>((u:Int),((u+1+i:Nat):Int),()))];rfl
theorem se(N:Nat)(a:N<=64)(l:List Edge)(u:Nat):(XI N l u).length<=64:=by unfold XI;rw[AbN];have:=Ach (fun i=>decide (Lm l (u:Int) ((u+1+i:Nat):Int))) (List.range (N-(u+1)));rw[Aa9]at this;omega
theorem tF(N:Nat)(d:N<=64)(l:List Edge)(g:l.length<1073741824):Z1 ((N:Int),l,())=some (Dt N l,()):=by
 rw[c6,XP]
 have e:=EC (step:=KU) (fun i (a:List Edge)=>((N:Int),l,a,(i:Int),())) (List.range N) (fun u a=>.inl (a++XI N l u)) (fun a=>.inl (a,())) (fun i a=>a.length<=64*i) (by simp;omega)
  (fun i x a hi h j=>by
   refine⟨fun n b => ?_,fun r b=>(by cases b)⟩
   cases b
   have:=Ex h
   subst this
   rw[Aa9]at hi
   have f:=se N d l x
   constructor
   ·rw[KU,A3,Aar hi,A6 (by omega)]
    simp only[tG N d l g x hi a j]
    rw[A6 (by omega)]
   ·rw[Aa3];omega)
  (fun a _=>by rw[KU,Aa9,A3,Aaq (by omega)]) [] (Aax _)
 have k:A' KU many ((N:Int),l,[],(0:Int),())=_:=e;simp only[k];rw[CV (fun u a=>a++XI N l u)];have c:∀ (xs:List Nat) (a:List Edge),xs.foldl (fun a u=>a++XI N l u) a=a++xs.flatMap fun u=>XI N l u:=by
  intro xs;induction xs with
   |nil=>intro a;simp
   |cons x xs m=>intro a;rw[Abu,m];simp
 rw[c];rfl
end Go.Pev.Pl
end
section
namespace Go.Pev.Pl
theorem cz(N:Nat)(b:N<=64)(l:List Edge):(Dt N l).length<=4096:=by
 have a:∀ M,((List.range M).flatMap fun u=>XI N l u).length<=64*M:=by
  intro M;induction M with
   |zero=>simp
   |succ M c=>rw[AbJ,Abp,Aa3];have:=se N b l M;simp only[Abr,Adr,Abd];omega
 have:=a N;unfold Dt;omega
def B4(N:Nat)(ts:List Tie)(l:List Edge):List Edge:=(Dt N l).filter fun x => !decide (x∈ts.map ed)
theorem AIE{N:Nat}(m:1<=N)(c:N<=64)(ts:List Tie)(n:ts.length<=400)(l:List Edge)(g:l.length<1073741824)(j:Fs (((N:Int),(ts,())),())=some (true,())):
  AEW (((N:Int),(ts,())),l,())=some (if ∀ e∈l,In (N:Int) e.1/\In (N:Int) e.2.1 then(B4 N ts l,0,())else([],10,())):=by
 rw[uo,oD];simp only[xA m c ts l g j];by_cases h:¬ ∀ e∈l,In (N:Int) e.1/\In (N:Int) e.2.1;rw[Aa2 h,Aa2 h,show ieq (10:Int) (0:Int)=false from by rw[BI];rfl];rfl;have h:=Acy.1 h;rw[Aa5 h,Aa5 h,C'];simp only[Aav,vq (N:Int) ts n j,tF N c l g];have d:=cz N c l;generalize o:Dt N l=p at d
 have e:=EC (step:=Pc) (fun i (a:List Edge)=>(ts.map ed,p,a,(i:Int),())) p (fun x a=>.inl (if ¬ x∈ts.map ed then a++[x]else a)) (fun a=>.inl (a,())) (fun i a=>a.length<=i) (by omega)
  (fun i x a hi k w=>by
   refine⟨fun y f => ?_,fun r f=>(by cases f)⟩
   cases f
   constructor
   ·rw[Pc,A7,A3,Aar hi]
    obtain⟨u,v,⟨⟩⟩:=x
    simp only[BA k,CQ k,kT (ts.map ed) u v (by rw[AbN];omega),A7]
    have b:fits ((a.length:Int)+(([(u,v,())]:List Edge).length:Int))=true:=CM (by simp;omega)
    rw[b,A6 (by omega)]
    by_cases q:((u,v,()):Edge)∈ts.map ed
    ·rw[Aar q,Aa2 (fun h=>h q)]
     rfl
    ·rw[Aaq q,Aa5 q]
     rfl
   ·split
    ·rw[Aa3];simp;omega
    ·omega)
  (fun a _=>by rw[Pc,A7,A3,Aaq (by omega)]) [] (Aax _)
 have s:A' Pc many (ts.map ed,p,[],(0:Int),())=_:=e;rw[s,CV (fun x a=>if ¬ x∈ts.map ed then a++[x]else a),VF (fun x:Edge=>¬ x∈ts.map ed) (fun x=>x)];unfold B4;rw[o,AbW,List.map_id'];have t:(p.filter fun x=>decide ¬x∈ts.map ed)=p.filter fun x => !decide (x∈ts.map ed):=by refine Acb fun x _ => ?_;simp
 rw[t]
def cq(l:List Tie)(t:Tie):List Tie:=l.take (l.findIdx fun x => !decide (ahead x t))++t::l.drop (l.findIdx fun x => !decide (ahead x t))
end Go.Pev.Pl
end
section
namespace Go.Pev.Pl
def valid(N:Nat)(t:Tie):Prop:=0<=t.1/\t.1<t.2.1/\t.2.1<(N:Int)/\0<=t.2.2.1/\t.2.2.1<=Lf N
theorem ahead.trans{a b c:Tie}(h:ahead a b)(d:ahead b c):ahead a c:=by unfold ahead at *;omega
theorem Ql(N:Nat)(ts:List Tie):oks N ts↔(∀ t∈ts,valid N t)/\ts.Pairwise ahead:=by
 constructor;intro h;have l:∀ i,i<ts.length->Ru N ts i:=fun i hi=>h i (by simpa using hi);refine⟨fun t o => ?_,?_⟩;obtain⟨i,hi,rfl⟩:=Ab1 o;obtain⟨a,b,c,f,g,_⟩:=l i hi;simp only[AbG,Aaz hi,Abg]at a b c f g;exact⟨a,b,c,f,g⟩;have m:∀ (d i:Nat),i+d+1<ts.length->ahead (ts.getD i zT) (ts.getD (i+d+1) zT):=by
  intro d;induction d with
   |zero=>intro i hi;obtain⟨_,_,_,_,_,q⟩:=l (i+0+1) hi;rcases q with q|q;omega;simpa using q
   |succ d p=>intro i hi;have n:=p i (by omega);obtain⟨_,_,_,_,_,q⟩:=l (i+(d+1)+1) hi;rcases q with q|q;omega;rw[show i+(d+1)+1-1=i+d+1 by omega]at q;exact n.trans q
 rw[Ab7];intro i j hi k r;have:=m (j-i-1) i (by omega);rw[show i+(j-i-1)+1=j by omega]at this;simpa only[AbG,Aaz hi,Aaz k,Abg]using this;rintro⟨n,s⟩ i hi;have hi:i<ts.length:=by simpa using hi
 have e:∀ j (k:j<ts.length),ts.getD j zT=ts[j]:=fun j k=>by simp only[AbG,Aaz k,Abg]
 obtain⟨a,b,c,f,g⟩:=n ts[i] (Ab5 hi);unfold Ru;rw[e i hi];refine⟨a,b,c,f,g,?_⟩;by_cases u:i=0;exact .inl u;right;rw[e (i-1) (by omega)];exact(Ab7.1 s) (i-1) i (by omega) hi (by omega)
theorem ju(l:List Tie)(t:Tie):(cq l t).Perm (t::l):=by unfold cq;refine List.perm_middle.trans ?_;rw[Abv]
theorem AGz{l:List Tie}{t:Tie}(h:l.Pairwise ahead)(g:∀ x∈l,¬ (x.1=t.1/\x.2.1=t.2.1)):(cq l t).Pairwise ahead:=by
 induction l with
  |nil=>simp[cq]
  |cons a l i=>
   rw[Abi]at h;have j:=g a (by simp);have d:∀ x∈l,¬ (x.1=t.1/\x.2.1=t.2.1):=fun x b=>g x (by simp[b]);by_cases f:ahead a t;have e:cq (a::l) t=a::cq l t:=by unfold cq;rw[List.findIdx_cons];simp[f]
   rw[e,Abi];refine⟨fun x b => ?_,i h.2 d⟩;rcases AbD.1 ((ju l t).mem_iff.1 b)with rfl|b;exact f;exact h.1 x b;have e:cq (a::l) t=t::a::l:=by unfold cq;rw[List.findIdx_cons];simp[f]
   have c:ahead t a:=by unfold ahead at *;omega
   rw[e,Abi,Abi];refine⟨fun x b => ?_,h.1,h.2⟩;rcases AbD.1 b with rfl|b;exact c;exact c.trans (h.1 x b)
end Go.Pev.Pl
end
section
namespace Go.Pev.Pl
theorem Hg(N:Nat)(l:List Edge)(x:Edge):x∈Dt N l↔0<=x.1/\x.1<x.2.1/\x.2.1<(N:Int)/\Lm l x.1 x.2.1:=by unfold Dt XI;simp only[Ab4,AbA,AbS,AbI,Aat];constructor;rintro⟨u,h,i,⟨hi,e⟩,rfl⟩;exact⟨by show(0:Int)<=(u:Int);omega,by show(u:Int)<((u+1+i:Nat):Int);omega,by show((u+1+i:Nat):Int)<(N:Int);omega,e⟩;obtain⟨a,b,⟨⟩⟩:=x;rintro⟨c,f,g,d⟩;simp only at c f g d;obtain⟨u,rfl⟩:=Aaw c;obtain⟨v,rfl⟩:=Aaw (show 0<=b by omega);refine⟨u,by omega,v-(u+1),⟨by omega,?_⟩,?_⟩;rw[show u+1+(v-(u+1))=v by omega];exact d;rw[show u+1+(v-(u+1))=v by omega]
def DY(p x:Edge):Prop:=p.1<x.1\/(p.1=x.1/\p.2.1<x.2.1)
theorem PN(N:Nat)(l:List Edge):(Dt N l).Pairwise DY:=by unfold Dt;rw[List.pairwise_flatMap];refine⟨fun u _ => ?_,?_⟩;unfold XI;rw[AcA];refine Ac2 _ ?_;refine List.pairwise_lt_range.imp fun h => ?_;exact .inr ⟨rfl,by show((u+1+_:Nat):Int)<((u+1+_:Nat):Int);omega⟩;refine List.pairwise_lt_range.imp fun h x a y b => ?_;unfold XI at a b;simp only[AbA]at a b;obtain⟨i,_,rfl⟩:=a;obtain⟨j,_,rfl⟩:=b;exact .inl (by simp only;omega)
theorem Qo(N:Nat)(ts:List Tie)(l:List Edge)(x:Edge):x∈B4 N ts l↔(0<=x.1/\x.1<x.2.1/\x.2.1<(N:Int)/\Lm l x.1 x.2.1)/\¬ x∈ts.map ed:=by unfold B4;rw[AbS,Hg];simp
theorem OC(N:Nat)(ts:List Tie)(l:List Edge):(B4 N ts l).Pairwise DY:=(PN N l).filter _
end Go.Pev.Pl
end
section
namespace Go.Pev.Pl
open Tok
instance (n v:Int):Decidable (In n v):=inferInstanceAs (Decidable (_/\_))
instance (n:Int):Decidable (Sz n):=inferInstanceAs (Decidable (_/\_))
end Go.Pev.Pl
end
section
namespace Go.Pev.Pl
instance (xs:List Int):Decidable (Rt xs):=inferInstanceAs (Decidable (_/\_/\_))
end Go.Pev.Pl
end
section
namespace Go.Pev.Pl
open Tok
noncomputable instance (n:Int) (xs:List Int):Decidable (TI n xs):=Classical.propDecidable _
end Go.Pev.Pl
end
section
namespace Go.Pev.Pl
open Tok
end Go.Pev.Pl
end
section
namespace Go.Pev.Pl
open Tok
end Go.Pev.Pl
end
section
namespace Go.Pev.Pl
open Tok
noncomputable instance (n:Int) (rings:List (List Int)):Decidable (RF n rings):=Classical.propDecidable _
noncomputable instance (n:Int) (xs:List Int):Decidable (RG n xs):=Classical.propDecidable _
end Go.Pev.Pl
end
end
section
section
namespace Go.Pev.Pl
open Tok
end Go.Pev.Pl
end
section
namespace Go.Pev.Pl
open Tok
end Go.Pev.Pl
end
section
namespace Go.Pev.Pl
open Tok
end Go.Pev.Pl
end
section
namespace Go.Pev.Pl
open Tok
theorem ARm(n:Int)(a:List (List Int))(v:Int)(b:Dom a):tof ((n,(a,())),v,())=some (if RF n a/\In n v then plc a v else -1,()):=by rw[ALY,ALZ];simp only[Zm,NU n a b.1 b.2,SQ n a v b.1 (fun l d=>(b.2 l d).1)];by_cases c:In n v;by_cases e:RF n a<;>simp[c,e];simp[c]
end Go.Pev.Pl
end
section
namespace Go.Pev.Pl
open Go.RowKit Tok
end Go.Pev.Pl
end
section
namespace Go.Pev.Pl
open Tok
end Go.Pev.Pl
end
section
namespace Go.Pev.Pl
open Tok
end Go.Pev.Pl
end
section
namespace Go.Pev.Pl
open Tok
end Go.Pev.Pl
end
section
namespace Go.Pev.Pl
open Tok
instance (n v:Int):Decidable (In n v):=inferInstanceAs (Decidable (_/\_))
instance (n:Int):Decidable (Sz n):=inferInstanceAs (Decidable (_/\_))
end Go.Pev.Pl
end
section
namespace Go.Pev.Pl
instance (xs:List Int):Decidable (Rt xs):=inferInstanceAs (Decidable (_/\_/\_))
end Go.Pev.Pl
end
section
namespace Go.Pev.Pl
open Tok
noncomputable instance (n:Int) (xs:List Int):Decidable (TI n xs):=Classical.propDecidable _
end Go.Pev.Pl
end
section
namespace Go.Pev.Pl
open Tok
noncomputable instance (n:Int) (rings:List (List Int)):Decidable (RF n rings):=Classical.propDecidable _
noncomputable instance (n:Int) (xs:List Int):Decidable (RG n xs):=Classical.propDecidable _
end Go.Pev.Pl
end
section
namespace Go.Pev.Pl
open Tok
end Go.Pev.Pl
end
section
namespace Go.Pev.Pl
open Tok
end Go.Pev.Pl
end
section
namespace Go.Pev.Pl
open Tok
end Go.Pev.Pl
end
section
namespace Go.Pev.Pl
open Tok
end Go.Pev.Pl
end
section
namespace Go.Pev.Pl
open Tok
theorem sq{N:Nat}(g:1<=N)(a:N<=64){ts:List Tie}(h:ts.length<=400)(d:oks N ts){out:List Int}(e:gN (N:Int) (trs ts ts.length) out):
  Fs (((N:Int),(ts,())),())=some (decide ((cnt out N:Int)=(N:Int)-(trs ts ts.length).length),()):=by
 have R:=Tz N a ts h;rw[Aa5 d]at R;have b:=bU a d;have f:=TZ ts ts.length;obtain⟨j,i,c2⟩:=IF (N:Int) (trs ts ts.length) ⟨by omega,by omega⟩ (by omega) b;have:=gN.unique g a e c2;subst this;have c:out.length=N:=by have:=e.len;omega
 rw[HY,HZ];simp only[BF,A7];rw[Aaq (show ¬ (N:Int)<1 by omega),Aaq (show ¬ 64<(N:Int) by omega),Aaq (show ¬ 400<(ts.length:Int) by omega)];simp only[R,i,R3 N a _ _ out c,BI];rw[BM (by omega)]
end Go.Pev.Pl
end
section
namespace Go.Pev.Pl
open Tok
end Go.Pev.Pl
end
section
namespace Go.Pev.Pl
open Tok
def Th(x:Edge)(b:Bool):Tie:=(x.1,x.2.1,0,b,())
def qa(ts:List Tie)(xs:List Edge)(b:List Bool)(k:Nat):List Tie:=(List.range k).foldl (fun a i=>cq a (Th (xs.getD i (0,0,())) (b.getD i false))) ts
end Go.Pev.Pl
end
section
namespace Go.Pev.Pl
open Tok
def UB(xs:List Edge)(a:List Bool)(k:Nat):List Tie:=(List.range k).map fun i=>Th (xs.getD i (0,0,())) (a.getD i false)
theorem lQ(ts:List Tie)(xs:List Edge)(a:List Bool)(k:Nat):qa ts xs a (k+1)=cq (qa ts xs a k) (Th (xs.getD k (0,0,())) (a.getD k false)):=by unfold qa;rw[AbJ,AcB];rfl
theorem lR(ts:List Tie)(xs:List Edge)(a:List Bool):∀ k,(qa ts xs a k).Perm (ts++UB xs a k):=by
 intro k;induction k with
  |zero=>simp[qa,UB]
  |succ k b=>rw[lQ];refine(ju _ _).trans ?_;unfold UB at *;rw[AbJ,Abm,<- AcC];refine(List.Perm.cons _ b).trans ?_;exact(List.perm_append_singleton _ _).symm
end Go.Pev.Pl
end
section
namespace Go.Pev.Pl
open Tok
theorem ARH{N:Nat}{ts:List Tie}(h:oks N ts)(f:0<=Lf N){xs:List Edge}(c:List Bool)(m:xs.Pairwise DY)(n:∀ e∈xs,0<=e.1/\e.1<e.2.1/\e.2.1<(N:Int))(o:∀ e∈xs,¬ e∈ts.map ed):oks N (qa ts xs c xs.length):=by
 rw[Ql]at h |-;obtain⟨p,q⟩:=h;have a:∀ i (hi:i<xs.length),xs.getD i (0,0,())=xs[i]:=fun i hi=>by simp only[AbG,Aaz hi,Abg]
 have b:∀ k,k<=xs.length->∀ t∈qa ts xs c k,t∈ts\/∃ i,i<k/\t=Th (xs.getD i (0,0,())) (c.getD i false):=by intro k r t d;rcases Aa7.1 ((lR ts xs c k).mem_iff.1 d)with h|h;exact .inl h;unfold UB at h;obtain⟨i,hi,rfl⟩:=AbA.1 h;exact .inr ⟨i,by simpa using hi,rfl⟩
 refine⟨fun t d => ?_,?_⟩;rcases b _ (Aax _) t d with h|⟨i,hi,rfl⟩
 exact p t h;rw[a i hi];obtain⟨s,u,v⟩:=n xs[i] (Ab5 hi);exact⟨s,u,v,by show(0:Int)<=0;omega,f⟩;have g:∀ k,k<=xs.length->(qa ts xs c k).Pairwise ahead:=by
  intro k;induction k with
   |zero=>intro _;exact q
   |succ k w=>
    intro r;rw[lQ];refine AGz (w (by omega)) fun t d => ?_;rw[a k (by omega)];rintro⟨j,l⟩;rcases b k (by omega) t d with h|⟨i,hi,rfl⟩
    refine o xs[k] (Ab5 (by omega)) (AbA.2 ⟨t,h,?_⟩);unfold ed;rw[j,l];rfl;rw[a i (by omega)]at j l;have:=(Ab7.1 m) i k (by omega) (by omega) hi;unfold DY at this;simp only[Th]at j l;omega
 exact g _ (Aax _)
end Go.Pev.Pl
end
section
namespace Go.Pev.Pl
open Tok
theorem ALP(ts:List Tie):∀ k,k<=ts.length->trs ts k=((ts.take k).filter fun t=>t.2.2.2.1).map ed:=by
 intro k;induction k with
  |zero=>intro _;simp[trs]
  |succ k b=>
   intro c;have a:k<ts.length:=by omega
   rw[bT,b (by omega),Abq a,AcX,Abm];simp only[AbG,Aaz a,Abg];cases h:ts[k].2.2.2.1;simp[h];simp[h]
theorem ARj(ts:List Tie):trs ts ts.length=(ts.filter fun t=>t.2.2.2.1).map ed:=by rw[ALP ts _ (Aax _),AbM]
end Go.Pev.Pl
end
section
namespace Go.Pev.Pl
open Tok
end Go.Pev.Pl
end
end
section
section
namespace Go.Pev.Pl
open Tok
def xF(N:Nat)(l:List Edge):Prop:=∀ e∈l,In (N:Int) e.1/\In (N:Int) e.2.1
theorem X9(N:Nat)(a:N<=64)(ts:List Tie)(l:List Edge):(B4 N ts l).length<=4096:=by unfold B4;exact Abk (Ach _ _) (cz N a l)
theorem wQ{N:Nat}(f:N<=64)(ts:List Tie)(l:List Edge):∀ e∈B4 N ts l,In (N:Int) e.1/\In (N:Int) e.2.1:=by intro e d;obtain⟨⟨a,b,c,_⟩,_⟩:=(Qo N ts l e).1 d;exact⟨⟨by omega,by omega,a,by omega⟩,⟨by omega,by omega,by omega,c⟩⟩
end Go.Pev.Pl
end
section
namespace Go.Pev.Pl
open Tok
theorem vK{N:Nat}(b:1<=N)(c:N<=64){a:Int}(h:0<=a/\a<(N:Int)):In (N:Int) a:=⟨by omega,by omega,h.1,h.2⟩
theorem oV{N:Nat}{e:Edge}(h:In (N:Int) e.1/\In (N:Int) e.2.1):InE N e:=⟨⟨h.1.2.2.1,h.1.2.2.2⟩,⟨h.2.2.2.1,h.2.2.2.2⟩⟩
theorem AZI{N:Nat}(f:1<=N)(g:N<=64){l:List Edge}{out:List Int}(c:gN (N:Int) l out):cnt out N=cc N l:=by
 unfold cnt cc;rw[List.countP_eq_length_filter];congr 1;refine Acb fun k i => ?_;have i:k<N:=by simpa using i
 have b:=vK f g (a:=(k:Int)) ⟨by omega,by omega⟩;have o:out.getD k 0=cl out (k:Int):=by unfold cl;rw[Abn]
 rw[o,AcH,Acg,KY];constructor;intro h j s d;have:=c.least (k:Int) (j:Int) b (vK f g ⟨by omega,by omega⟩) d.symm;omega;intro h;have p:=c.isin _ b;have n:=c.con _ b;have q:=c.least (k:Int) (k:Int) b b (.refl _);obtain⟨m,r⟩:=Aaw p.2.2.1;rw[r]at n q |-;by_cases e:m<k;exact absurd n.symm (h m e);omega
theorem sk{N:Nat}(b:1<=N)(a:N<=64){ts:List Tie}(f:ts.length<=400)(d:oks N ts):Fs (((N:Int),(ts,())),())=some (true,())↔Fo N (trs ts ts.length):=by
 have e:=TZ ts ts.length;obtain⟨o,_,c⟩:=IF (N:Int) (trs ts ts.length) ⟨by omega,by omega⟩ (by omega) (bU a d);rw[sq b a f d c,AZI b a c];unfold Fo;constructor;intro h;have:decide ((cc N (trs ts ts.length):Int)=(N:Int)-(trs ts ts.length).length)=true:=by injection h with h;injection h
 have:=AdJ this;omega;intro h;rw[Aar (by omega)]
theorem AU0(f:Edge->Edge):∀ (l b b':List Edge),(∀ p x s,l=p++x::s->fL (b++p) x.1 x.2.1=fL (b'++p.map f) (f x).1 (f x).2.1)->gfl b l=gfl b' (l.map f):=by
 intro l;induction l with
  |nil=>intro b b' _;rfl
  |cons x l c=>intro b b' h;rw[gfl,AbL,gfl];have a:=h [] x l rfl;simp only[Abd,AcE]at a;rw[a,c (b++[x]) (b'++[f x]) (fun p y s e=>by have:=h (x::p) y s (by rw[e];rfl);simpa using this)]
theorem yp{N:Nat}(d:N<=64){c:Int->Int}{s:List Int}(f:UF N s c){u v:Nat}(h:u<N)(i:v<N):∃ a,sO (s,(u:Int),(v:Int),())=some (a,!decide (c (u:Int)=c (v:Int)),())/\UF N a (jo c u v):=by obtain⟨a,b,e,g⟩:=AGQ d f h i;refine⟨a,?_,g⟩;rw[e];obtain⟨m,j,k,_⟩:=NZ d f h;obtain⟨n,l,o,_⟩:=NZ d k i;rw[cB,Zs]at e;simp only[j,l,BI]at e;split at e;cases e;cases e;rfl
theorem pQ{N:Nat}(K:1<=N)(C:N<=64)(l:List Edge)(L:l.length<1073741824)(q:∀ e∈l,In (N:Int) e.1/\In (N:Int) e.2.1):
  ∃ s,VP (l,(List.range N).map (fun(k:Nat)=>(k:Int)),())=some (s,gfl [] l,()):=by
 rw[Y8,TD]
 have r:∀ (m i n:Nat) (s:List Int) (c:Int->Int),l.length-i=m->i<=l.length->m<n->UF N s c->AFK N c (l.take i) ->
   ∃ t,BK Ip n (s,gfl [] (l.take i),l,A2 l,(i:Int),())=some (.inl (t,gfl [] l,())):=by
  intro m
  induction m with
  |zero=>
   intro i n s c D hi E z w
   obtain⟨n,rfl⟩:∃ k,n=k+1:=⟨n-1,by omega⟩
   have e:i=l.length:=by omega
   subst e
   rw[BK,Ip,A7,A3,Aaq (by omega),AbM]
   exact⟨s,rfl⟩
  |succ m F=>
   intro i n s c D hi E z w
   obtain⟨n,rfl⟩:∃ k,n=k+1:=⟨n-1,by omega⟩
   have d:i<l.length:=by omega
   have G:l[i]? = some l[i]:=by simp[d]
   obtain⟨A,B⟩:=q l[i] (Ab5 d)
   have o:=w l[i].1 l[i].2.1 A B
   obtain⟨_,_,H,M⟩:=A
   obtain⟨_,_,I,O⟩:=B
   obtain⟨u,f⟩:=Aaw H
   obtain⟨v,j⟩:=Aaw I
   obtain⟨t,e,g⟩:=yp C z (u:=u) (v:=v) (by omega) (by omega)
   have x:(l.take i).length=i:=by rw[AbU];omega
   rw[BK,Ip,A7,A3,Aar d]
   simp only[BA G,f,j,e,A7]
   rw[CM (by rw[AEr,x];simp;omega),A6 (by omega)]
   have p:l.take (i+1)=l.take i++[l[i]]:=Abq d
   have y:B2 (gfl [] (l.take i)) [!decide (c (u:Int)=c (v:Int))]=gfl [] (l.take (i+1)):=by
    rw[p,APh,ES,AbW]
    congr 2
    rw[f,j]at o |-
    congr 1
    rw[AcH,Acg,M8]
    exact o
   rw[y]
   refine F (i+1) n t _ (by omega) (by omega) (by omega) g ?_
   rw[p]
   have:=w.snoc (e:=l[i]) (q l[i] (Ab5 d)).1 (q l[i] (Ab5 d)).2
   rw[f,j]at this
   exact this
 obtain⟨s,e⟩:=r l.length 0 many _ _ rfl (Acq _) (by simp only[many];omega) (ARK N) (by intro a b _ _;rw[List.take_zero];exact⟨fun h=>by have h:a=b:=h;rw[h];exact .refl _,fun h=>h.nil⟩)
 have J:A' Ip many ((List.range N).map (fun(k:Nat)=>(k:Int)),[],l,A2 l,(0:Int),())=_:=(Bo _ _ _).trans e;rw[J];exact⟨s,rfl⟩
end Go.Pev.Pl
end
section
namespace Go.Pev.Pl
open Tok
theorem vA{N:Nat}(i:1<=N)(c:N<=64)(ts:List Tie)(d:ts.length<=400)(h:oks N ts)(f:D3 (((N:Int),(ts,())),())=some (true,())):
  ∃ a,LJ (((N:Int),(ts,())),(0:Int),())=some (((N:Int),(a,())),0,())/\FC (N:Int) a (trs ts ts.length):=by
 have j:=TZ ts ts.length;rcases(AEx (N:Int) (trs ts ts.length) ⟨by omega,by omega⟩ (by omega)).symm with⟨b,_⟩|⟨_,a,e,g⟩
 exact absurd (bU c h) b;refine⟨a,?_,g⟩;rw[dh,Xb];simp only[f,Aav,dY ts d h,e]
end Go.Pev.Pl
end
section
namespace Go.Pev.Pl.SE
open Go.Sort
def ok(_:Int×Int×Unit):Prop:=True
def okz:Int×Int×Unit:=(0,0,())
theorem So:ok okz:=trivial
def lt(x y:Int×Int×Unit):Bool:=decide (x.1<y.1\/(x.1=y.1/\x.2.1<y.2.1))
theorem swo:SWO lt:=⟨fun x=>by simp[lt],fun x y z a b=>by simp only[lt,Aat]at *;omega,fun x y z a b=>by simp only[lt,AbX]at *;omega⟩
theorem P9(a b:Int):Ed (a,b,())=some (if a<b then -1 else if b<a then 1 else 0,()):=by rw[Ir,Hu,LI,Nk,LI,Nk];simp only[DF,BF];by_cases h:a<b;simp[h];by_cases c:b<a;simp[h,c];simp[h,c]
theorem or_val(a b:Int):orI ([a,b],())=some (if a=0 then b else a,()):=by
 obtain⟨m,l⟩:∃ m,many=m+3:=⟨many-3,by simp only[many]⟩
 rw[n8,uh,Bo,l];have c:idx [a,b] (0:Int)=some a:=by rw[idx_eq];rfl
 have d:idx [a,b] (1:Int)=some b:=by rw[idx_eq];rfl
 have e:A2 [a,b]=(2:Int):=rfl;have f:w64 ((0:Int)+1)=1:=by rw[BM (by omega)];rfl
 have g:w64 ((1:Int)+1)=2:=by rw[BM (by omega)];rfl
 have h:ilt (0:Int) 2=true:=by rw[BF];rfl
 have i:ilt (1:Int) 2=true:=by rw[BF];rfl
 have c2:ilt (2:Int) 2=false:=by rw[BF];rfl
 by_cases j:a=0;subst j;by_cases k:b=0;subst k;have z:ieq (0:Int) 0=true:=by rw[DF];rfl
 simp only[BK,Lj,e,c,d,f,g,h,i,c2,z,Aav,Abc];have:ieq b 0=false:=by rw[DF];simpa using k
 have z:ieq (0:Int) 0=true:=by rw[DF];rfl
 simp only[BK,Lj,e,c,d,f,g,h,i,c2,z,this,Aav,AbF,Abc];have:ieq a 0=false:=by rw[DF];simpa using j
 simp only[BK,Lj,e,c,d,f,g,h,i,c2,this,j,AbF,AbE]
end Go.Pev.Pl.SE
end
section
namespace Go.Pev.Pl.ST
open Go.Sort
def ok(_:Int×Int×Int×Bool×Unit):Prop:=True
def okz:Int×Int×Int×Bool×Unit:=(0,0,0,false,())
theorem So:ok okz:=trivial
def lt(x y:Int×Int×Int×Bool×Unit):Bool:=decide (x.1<y.1\/(x.1=y.1/\x.2.1<y.2.1))
theorem swo:SWO lt:=⟨fun x=>by simp[lt],fun x y z a b=>by simp only[lt,Aat]at *;omega,fun x y z a b=>by simp only[lt,AbX]at *;omega⟩
theorem P9(a b:Int):Ed (a,b,())=some (if a<b then -1 else if b<a then 1 else 0,()):=by rw[Ir,Hu,LI,Nk,LI,Nk];simp only[DF,BF];by_cases h:a<b;simp[h];by_cases c:b<a;simp[h,c];simp[h,c]
theorem or_val(a b:Int):orI ([a,b],())=some (if a=0 then b else a,()):=by
 obtain⟨m,l⟩:∃ m,many=m+3:=⟨many-3,by simp only[many]⟩
 rw[n8,uh,Bo,l];have c:idx [a,b] (0:Int)=some a:=by rw[idx_eq];rfl
 have d:idx [a,b] (1:Int)=some b:=by rw[idx_eq];rfl
 have e:A2 [a,b]=(2:Int):=rfl;have f:w64 ((0:Int)+1)=1:=by rw[BM (by omega)];rfl
 have g:w64 ((1:Int)+1)=2:=by rw[BM (by omega)];rfl
 have h:ilt (0:Int) 2=true:=by rw[BF];rfl
 have i:ilt (1:Int) 2=true:=by rw[BF];rfl
 have c2:ilt (2:Int) 2=false:=by rw[BF];rfl
 by_cases j:a=0;subst j;by_cases k:b=0;subst k;have z:ieq (0:Int) 0=true:=by rw[DF];rfl
 simp only[BK,Lj,e,c,d,f,g,h,i,c2,z,Aav,Abc];have:ieq b 0=false:=by rw[DF];simpa using k
 have z:ieq (0:Int) 0=true:=by rw[DF];rfl
 simp only[BK,Lj,e,c,d,f,g,h,i,c2,z,this,Aav,AbF,Abc];have:ieq a 0=false:=by rw[DF];simpa using j
 simp only[BK,Lj,e,c,d,f,g,h,i,c2,this,j,AbF,AbE]
end Go.Pev.Pl.ST
end
section
namespace Go.Pev.Pl
open Tok
section
variable {α β:Type} [DecidableEq α]
theorem R6(d:List (α×β))(k:α)(v:β)(j:α):A_ (BH d k v) j=if j=k then some v else A_ d j:=by
 induction d with
  |nil=>simp only[BH,A_];by_cases h:k=j;simp[h];simp[h,Acd h]
  |cons e d f=>obtain⟨a,b⟩:=e;simp only[BH];by_cases h:a=k;subst h;simp only[Abc,A_];by_cases c:a=j;simp[c];simp[c,Acd c];simp only[h,AbE,A_,f];by_cases c:a=j;subst c;simp[h];simp[c]
end
def nrm(x:Edge):Edge:=(min x.1 x.2.1,max x.1 x.2.1,())
def ZT(n:Int)(x:Edge)(a:List (Edge×Int)×List Edge):(List (Edge×Int)×List Edge)⊕((Int×Unit)⊕(List Edge×Unit)⊕Unit):=
 if(nrm x).1<0\/n<=(nrm x).2.1 then .inr (.inl (10,()))else
 if(nrm x).1<(nrm x).2.1/\(A_ a.1 (nrm x)).getD 0=0 then .inl (BH a.1 (nrm x) 1,a.2++[nrm x])else .inl a
theorem AID(n:Int)(g:List Edge):∀ (l:List Edge) (m:List (Edge×Int)) (c:List Edge),(∀ x∈l,0<=(nrm x).1/\(nrm x).2.1<n)->c.Nodup->(∀ k,(A_ m k).getD 0=if k∈g\/k∈c then 1 else 0) ->
  ∃ ys,walk (ZT n) (fun a=>(.inr (.inl (a.2,())):(Int×Unit)⊕(List Edge×Unit)⊕Unit)) l (m,c) = .inr (.inl (ys,()))/\ys.Nodup/\(∀ k,k∈ys↔k∈c\/(k∉g/\k.1<k.2.1/\∃ x∈l,nrm x=k))/\ys.length<=c.length+l.length:=by
 intro l;induction l with
  |nil=>intro m c _ v _;exact⟨c,rfl,v,fun k=>by simp,by simp⟩
  |cons x l C=>
   intro m c f v w;obtain⟨F,G⟩:=f x (by simp);rw[walk];have q:ZT n x (m,c)=if(nrm x).1<(nrm x).2.1/\(A_ m (nrm x)).getD 0=0 then .inl (BH m (nrm x) 1,c++[nrm x])else .inl (m,c):=by unfold ZT;rw[Aa2 (by omega)]
   by_cases r:(nrm x).1<(nrm x).2.1/\(A_ m (nrm x)).getD 0=0;rw[q,Aa5 r];have s:=w (nrm x);rw[r.2]at s;have t:¬ (nrm x∈g\/nrm x∈c):=fun h=>by rw[Aa5 h]at s;omega
   obtain⟨ys,e,z,A,B⟩:=C (BH m (nrm x) 1) (c++[nrm x]) (fun y d=>f y (by simp[d]))
    (by
     rw[Adi]
     exact⟨v,by simp,fun a E b D=>by rintro rfl;simp at D;exact t (.inr (D▸E))⟩)
    (fun k=>by
     rw[R6]
     by_cases p:k=nrm x
     ·subst p;simp
     ·rw[Aa2 p,w]
      simp[p])
   refine⟨ys,e,z,fun k => ?_,by rw[Aa3]at B;simp at B |-;omega⟩;rw[A];constructor;rintro (h|h);rcases Aa7.1 h with h|h;exact .inl h;rw[AcJ]at h;subst h;exact .inr ⟨fun h=>t (.inl h),r.1,x,by simp,rfl⟩;obtain⟨j,o,y,d,i⟩:=h;exact .inr ⟨j,o,y,by simp[d],i⟩;rintro (h|⟨j,o,y,d,i⟩);exact .inl (by simp[h]);rcases AbD.1 d with rfl|d;exact .inl (by simp[i]);exact .inr ⟨j,o,y,d,i⟩;rw[q,Aa2 r];obtain⟨ys,e,z,A,B⟩:=C m c (fun y d=>f y (by simp[d])) v w;refine⟨ys,e,z,fun k => ?_,by simp;omega⟩;rw[A];constructor;rintro (h|⟨j,o,y,d,i⟩);exact .inl h;exact .inr ⟨j,o,y,by simp[d],i⟩;rintro (h|⟨j,o,y,d,i⟩);exact .inl h;rcases AbD.1 d with rfl|d;subst i;have s:=w (nrm y);by_cases u:nrm y∈g\/nrm y∈c;rcases u with h|h;exact absurd h j;exact .inl h;rw[Aa2 u]at s;exact absurd ⟨o,s⟩ r;exact .inr ⟨j,o,y,d,i⟩
theorem oC(n:Int):∀ (l:List Edge) (a:List (Edge×Int)×List Edge),¬ (∀ x∈l,0<=(nrm x).1/\(nrm x).2.1<n) ->
  walk (ZT n) (fun a=>(.inr (.inl (a.2,())):(Int×Unit)⊕(List Edge×Unit)⊕Unit)) l a = .inl (10,()):=by
 intro l;induction l with
  |nil=>intro a h;exact absurd (by simp) h
  |cons x l f=>
   intro a h;rw[walk];by_cases e:(nrm x).1<0\/n<=(nrm x).2.1;unfold ZT;rw[Aa5 e];have b:¬ (∀ x∈l,0<=(nrm x).1/\(nrm x).2.1<n):=fun b=>h fun y c=>by rcases AbD.1 c with rfl|c;exact⟨by omega,by omega⟩;exact b y c
   have d:ZT n x a = .inl (if(nrm x).1<(nrm x).2.1/\(A_ a.1 (nrm x)).getD 0=0 then(BH a.1 (nrm x) 1,a.2++[nrm x])else a):=by unfold ZT;rw[Aa2 e];split<;>rfl
   rw[d];exact f _ b
theorem yo{xs ys c:List Edge}(g:ys.Perm xs)(i:ys.Pairwise (fun x y=>SE.lt y x=false))(j:c.Pairwise DY)(d:xs.Perm c):ys=c:=by
 refine Aco (le:=fun x y=>SE.lt y x=false) ?_ i ?_ (g.trans d);intro a b _ _ e f;simp only[SE.lt,AbX]at e f;obtain⟨k,l,⟨⟩⟩:=a;obtain⟨m,n,⟨⟩⟩:=b;simp only at e f;have o:k=m:=by omega
 have p:l=n:=by omega
 rw[o,p];refine j.imp fun h => ?_;unfold DY at h;simp only[SE.lt,AbX];omega
end Go.Pev.Pl
end
section
namespace Go.Pev.Pl
open Tok
theorem YT{N:Nat}(a:N<=64):0<=Lf N:=by
 have:((List.range 65).all fun k=>decide (0<=Lf k))=true:=by kernel_rfl
 exact AdJ (AbK.1 this N (by simp;omega))
noncomputable def grown(N:Nat)(ts:List Tie)(l:List Edge):List Tie:=qa ts (B4 N ts l) (gfl (trs ts ts.length) (B4 N ts l)) (B4 N ts l).length
theorem eK(N:Nat)(ts:List Tie)(l:List Edge):(grown N ts l).Perm (ts++UB (B4 N ts l) (gfl (trs ts ts.length) (B4 N ts l)) (B4 N ts l).length):=lR ..
theorem AJM{N:Nat}(f:N<=64){ts:List Tie}(g:oks N ts)(l:List Edge):oks N (grown N ts l):=
 ARH g (YT f) _ (OC N ts l) (fun e d=>by obtain⟨⟨a,b,c,_⟩,_⟩:=(Qo N ts l e).1 d;exact⟨a,b,c⟩) (fun e d=>((Qo N ts l e).1 d).2)
structure RG2(N:Nat)(ts:List Tie):Prop where
 h1:1<=N
 hN:N<=64
 ht:ts.length<=400
 oks:oks N ts
 fo:Fo N (trs ts ts.length)
theorem RG2.r21{N:Nat}{ts:List Tie}(h:RG2 N ts):Fs (((N:Int),(ts,())),())=some (true,()):=(sk h.h1 h.hN h.ht h.oks).2 h.fo
theorem RG2.lr{N:Nat}{ts:List Tie}(h:RG2 N ts):D3 (((N:Int),(ts,())),())=some (true,()):=by obtain⟨b,a,c,_⟩:=fZ (N:Int) ts (by have:=h.ht;omega);rw[h.r21]at a;cases a;exact c
theorem RG2.inE{N:Nat}{ts:List Tie}(h:RG2 N ts):∀ e∈ts.map ed,In (N:Int) e.1/\In (N:Int) e.2.1:=AY6 h.hN h.oks
theorem RG2.inT{N:Nat}{ts:List Tie}(h:RG2 N ts):∀ e∈trs ts ts.length,In (N:Int) e.1/\In (N:Int) e.2.1:=bU h.hN h.oks
theorem RG2.AaX{N:Nat}{ts:List Tie}(h:RG2 N ts):(trs ts ts.length).length<=400:=by have:=TZ ts ts.length;have:=h.ht;omega
theorem yn{N:Nat}{xs ys c:List Tie}(m:ys.Perm xs)(o:ys.Pairwise (fun x y=>ST.lt y x=false))(d:c.Pairwise ahead)(e:xs.Perm c):ys=c:=by
 have f:∀ a∈c,∀ b∈c,a.1=b.1->a.2.1=b.2.1->a=b:=by intro a g b k r s;refine Ab6 fun l => ?_;obtain⟨i,hi,rfl⟩:=Ab1 g;obtain⟨j,n,rfl⟩:=Ab1 k;rw[Ab7]at d;unfold ahead at d;rcases Nat.lt_trichotomy i j with h|h|h;have:=d i j hi n h;omega;subst h;exact l rfl;have:=d j i n hi h;omega
 refine Aco (le:=fun x y=>ST.lt y x=false) ?_ o ?_ (m.trans e);intro a b g k p q;simp only[ST.lt,AbX]at p q;exact f a ((m.trans e).mem_iff.1 g) b k (by omega) (by omega);refine d.imp fun h => ?_;unfold ahead at h;simp only[ST.lt,AbX];omega
theorem AIC(xs:List Edge)(a:List Bool)(k:Nat):UB xs a (k+1)=UB xs a k++[Th (xs.getD k (0,0,())) (a.getD k false)]:=by unfold UB;rw[AbJ,Abm];rfl
end Go.Pev.Pl
end
section
namespace Go.Pev.Pl
open Tok
theorem yY(x:Tie):(ieq x.1 x.1&&(ieq x.2.1 x.2.1&&(ieq x.2.2.1 x.2.2.1&&((x.2.2.2.1==x.2.2.2.1)&&true))))=true:=by simp only[C'];simp
theorem sX(n:Int)(ts:List Tie)(c:ts.length<1073741824):nD ((n,(ts,())),(n,(ts,())),())=some (true,()):=by
 rw[jd,cP];simp only[C',Aav]
 have e:=HK (step:=MF) (fun i=>(n,ts,n,ts,(i:Int),())) ts (fun _=>false) (fun _=>.inl (false,())) (.inr (.inl ())) (by omega)
  (fun i x hi a=>by
   rw[MF,A7,A3,Aar hi]
   simp only[BA a,yY,Aav]
   rw[A6 (by omega)]
   rfl)
  (by rw[MF,A7,A3,Aaq (by omega)])
 have b:A' MF many (n,ts,n,ts,(0:Int),())=_:=e;simp only[b];simp
end Go.Pev.Pl
end
end
section
namespace Go.Pev.Pl
open Tok
theorem ALR{N:Nat}{ts:List Tie}(h:oks N ts):trs ts ts.length=trk ts 0:=by rw[ARj];unfold trk;congr 1;refine Acb fun t a => ?_;have:=((Ql N ts).1 h).1 t a;rw[Aar this.2.2.2.1,Adq]
theorem RG2.tie{N:Nat}{ts:List Tie}(h:RG2 N ts){t:Tie}(b:t∈ts):In (N:Int) t.1/\In (N:Int) t.2.1/\t.1<t.2.1/\0<=t.2.2.1/\t.2.2.1<=Lf N:=by have a:=((Ql N ts).1 h.oks).1 t b;have c:=h.inE (ed t) (AbA.2 ⟨t,b,rfl⟩);exact⟨c.1,c.2,a.2.1,a.2.2.2.1,a.2.2.2.2⟩
def AXe(N:Nat):Nat:=(Lf N).toNat
theorem ARk{N:Nat}(a:N<=64):Lf N=(AXe N:Int):=by have:=YT a;unfold AXe;omega
end Go.Pev.Pl
end
section

end
section

end
section

end
section

end
section
namespace Go.Pev.Pl
open Tok
theorem AXt{N:Nat}(k:1<=N)(h:N<=64){O:List Tie}(b:O.length<=400)(i:(O.map ed).Pairwise DY)(c:∀ e∈O.map ed,e.1<e.2.1)(f:∀ x∈O,InE N (ed x))(l:∀ x∈O,0<=x.2.2.1/\x.2.2.1<=(AXe N:Int))(g:Fo N (trk O 0)):RG2 N O:=by
 have j:oks N O:=by rw[Ql];refine⟨fun t b => ?_,?_⟩;have a:=c (ed t) (AbA.2 ⟨t,b,rfl⟩);obtain⟨⟨m,n⟩,o,c2⟩:=f t b;have d:=l t b;rw[<- ARk h]at d;exact⟨m,a,c2,d.1,d.2⟩;rw[AcA]at i;exact i
 exact⟨k,h,b,j,by rw[ALR j];exact g⟩
theorem RG2.edP{N:Nat}{ts:List Tie}(h:RG2 N ts):(ts.map ed).Pairwise DY:=by rw[AcA];exact((Ql N ts).1 h.oks).2
theorem RG2.Aaj{N:Nat}{ts:List Tie}(h:RG2 N ts):∀ e∈ts.map ed,e.1<e.2.1:=by intro e a;obtain⟨t,b,rfl⟩:=AbA.1 a;exact(h.tie b).2.2.1
noncomputable def Of(N:Nat)(ts:List Tie)(l:List Edge):List Edge:=(Dt N l).filter fun x=>decide (x∈ts.map ed)
theorem ABk(N:Nat)(ts:List Tie)(l:List Edge):(Of N ts l).Pairwise DY:=(PN N l).filter _
end Go.Pev.Pl
end
section

end
section

end
section

end
section

end
section

end
section

end
section

end
section

end
section
namespace Go.Pev.Pl
open Tok
def mid(f:Int->Int)(xs:List Int)(i:Nat):List Int:=(xs.take i).map f++xs.drop i
def lb(a:List Int)(v:Int):Int:=a.getD v.toNat 0
end Go.Pev.Pl
end
section

end
section
namespace Go.Pev.Pl
section
variable {α β:Type} [DecidableEq α]
theorem ABS(b:List (α×β))(k:α)(v:β)(j:α):A_ (BH b k v) j=if j=k then some v else A_ b j:=by
 induction b with
  |nil=>simp only[BH,A_];by_cases h:j=k;rw[Aa5 h,Aa5 h.symm];rw[Aa2 h,Aa2 (Acd h)]
  |cons e b d=>obtain⟨a,x⟩:=e;by_cases c:a=k;subst c;simp only[BH,A_,Abc];by_cases h:j=a;rw[Aa5 h,Aa5 h.symm];rw[Aa2 h,Aa2 (Acd h),Aa2 (Acd h)];simp only[BH,A_,c,AbE,d];by_cases h:a=j;subst h;rw[Aa5 rfl,Aa2 c,Aa5 rfl];rw[Aa2 h,Aa2 h]
theorem jw:∀ (c:List (α×β)) (k:α),Fb c k=none->∀ v,BH c k v=c++[(k,v)]:=by
 intro c;induction c with
  |nil=>intro k _ v;rfl
  |cons e c f=>intro k h v;obtain⟨a,b⟩:=e;by_cases d:a=k;simp[Fb,d]at h;simp only[Fb,d,AbE,Adm]at h;simp only[BH,d,AbE,f k h v,AbO]
theorem jv:∀ (c:List (α×β)) (k:α) (n:Nat),Fb c k=some n->∀ v,n<c.length/\BH c k v=c.modify n fun e=>(e.1,v):=by
 intro c;induction c with
  |nil=>intro k n h;simp[Fb]at h
  |cons e c f=>intro k n h v;obtain⟨a,b⟩:=e;by_cases d:a=k;simp only[Fb,d,Abc,Aas]at h;subst h;simp[BH,d];simp only[Fb,d,AbE,Aa0]at h;obtain⟨m,g,rfl⟩:=h;obtain⟨j,i⟩:=f k m g v;simp only[BH,d,AbE,Aa1];exact⟨by omega,by rw[i];rfl⟩
theorem AA3(a:List (α×β))(k:α)(z v:β):(ile (0:Int) (Om a k)&&ilt (Om a k) (A2 (BH a k z)))=true/\ZU (BH a k z) (Om a k) v=BH a k v:=by
 rw[BR,BF];unfold Om ZU;cases h:Fb a k with
  |none=>
   rw[jw a k h,jw a k h,Option.getD_none,Abn];constructor;rw[Aar (by omega),Aar (by rw[A7,Aa3];simp;omega)];rfl;have:∀ (xs:List (α×β)),(xs++[(k,z)]).modify xs.length (fun e=>(e.1,v))=xs++[(k,v)]:=by
    intro xs;induction xs with
     |nil=>rfl
     |cons x xs b=>rw[AbO,Aa1,List.modify_succ_cons,b];rfl
   exact this a
  |some n=>
   obtain⟨f,c⟩:=jv a k n h z;obtain⟨_,d⟩:=jv a k n h v;rw[c,d,Abg,Abn];constructor;rw[Aar (by omega),Aar (by rw[A7,List.length_modify];omega)];rfl;apply Abe;intro i;simp only[List.getElem?_modify];cases a[i]? with
    |none=>split<;>rfl
    |some e=>split<;>rfl
end
end Go.Pev.Pl
end
section

end
section

end
section
namespace Go.Pev.Pl.SI
open Go.Sort
def ok(_:Int):Prop:=True
def lt(x y:Int):Bool:=decide (x<y)
theorem swo:SWO lt:=⟨fun x=>by simp[lt],fun x y z a b=>by simp only[lt,Aat]at *;omega,fun x y z a b=>by simp only[lt,AbX]at *;omega⟩
theorem AT1{x y:Int}(_:ok x)(_:ok y):∃ r,C_ (x,y,())=some (r,())/\tId r=lt x y:=by refine⟨decide (x<y),?_,rfl⟩;rw[vB,oJ];simp only[LI,Nk,BF,DF];by_cases h:x<y<;>simp[h]
noncomputable def S:SG.SP Int Bool:=⟨(0:Int),C_,tId,ok,0,trivial,lt,swo,fun a b=>AT1 a b⟩
def sorted(xs:List Int):List Int:=xs.mergeSort (fun x y=>decide (x<=y))
end Go.Pev.Pl.SI
end
section

end
section

end
section
namespace Go.Pev.Pl
section
variable {α:Type} (z:α)
theorem eO{a o:List α}{m k:Nat}(h:a.drop m=o.drop m)(b:m<=k):a.getD k z=o.getD k z:=by have:=Abx (fun l=>l.getD (k-m) z) h;simp only[AbG,Ada]at this;rw[Nat.add_sub_cancel' b]at this;simpa [AbG]using this
theorem Od{xs:List α}{i:Nat}(h:i<xs.length):xs.take (i+1)=xs.take i++[xs.getD i z]:=by rw[Abq h];simp[h]
theorem AQK{σ ρ:Type}{step:σ->Option (σ⊕ρ)}(st:List α->Nat->Nat->σ)(fin:List α->Nat->ρ)(keep:α->Bool)(o:List α)
  (h:∀ a w j,a.length=o.length->j<o.length->w<j->a.getD j z=o.getD j z->step (st a w j)=some (.inl (if keep (o.getD j z)=true then st (a.set w (o.getD j z)) (w+1) (j+1)else st a w (j+1))))
  (p:∀ a w,a.length=o.length->step (st a w o.length)=some (.inr (fin a w))) :
  ∀ (k j w:Nat) (a:List α) (cnt:Nat),j+k=o.length->a.length=o.length->w=((o.take j).filter keep).length->a.take w=(o.take j).filter keep->w<j->a.drop j=o.drop j->k<cnt ->
  ∃ l:List α,BK step cnt (st a w j)=some (fin l (o.filter keep).length)/\l.length=o.length/\l.take (o.filter keep).length=o.filter keep:=by
 intro k;induction k with
  |zero=>
   intro j w a cnt q c d f g hd r;obtain⟨cnt,rfl⟩:∃ k,cnt=k+1:=⟨cnt-1,by omega⟩
   have e:j=o.length:=by omega
   subst e;rw[AbM]at d f;rw[BK,p a w c];exact⟨a,by rw[d],c,by rw[<- d];exact f⟩
  |succ k m=>
   intro j w a cnt q c d f g hd r;obtain⟨cnt,rfl⟩:∃ k,cnt=k+1:=⟨cnt-1,by omega⟩
   have s:=eO z hd (Aax j);have i:a.drop (j+1)=o.drop (j+1):=by have:=Abx (List.drop 1) hd;simpa only[AcZ]using this
   have b:(o.take (j+1)).filter keep=(o.take j).filter keep++if keep (o.getD j z)=true then [o.getD j z]else []:=by rw[Od z (by omega),AcX];generalize o.getD j z=v;by_cases h:keep v=true<;>simp[h]
   rw[BK,h a w j c (by omega) g s];by_cases n:keep (o.getD j z)=true;rw[Aa5 n]at b |-;refine m (j+1) (w+1) (a.set w (o.getD j z)) cnt (by omega) (by simp[c]) (by rw[b];simp[d]) ?_ (by omega) ?_ (by omega);rw[b,<- f,Abq (by simp;omega)];simp[List.take_set_of_le];rw[List.drop_set_of_lt (by omega)];exact i;rw[Aa2 n]at b |-;rw[Abd]at b;exact m (j+1) w a cnt (by omega) c (by rw[b];exact d) (by rw[b];exact f) (by omega) i (by omega)
theorem AJw{σ ρ σ' ρ':Type}{find:σ'->Option (σ'⊕ρ')}{step:σ->Option (σ⊕ρ)}(st:List α->Nat->Nat->σ)(fin:List α->Nat->ρ)(c:Nat->σ')(p:Nat->ρ')(fn:ρ')(keep:α->Bool)(o:List α)(B:o.length<4294967296)
  (h:∀ a w j,a.length=o.length->j<o.length->w<j->a.getD j z=o.getD j z->step (st a w j)=some (.inl (if keep (o.getD j z)=true then st (a.set w (o.getD j z)) (w+1) (j+1)else st a w (j+1))))
  (r:∀ a w,a.length=o.length->step (st a w o.length)=some (.inr (fin a w)))
  (f:∀ i,i<o.length->find (c i)=if keep (o.getD i z)=true then some (.inl (c (i+1)))else some (.inr (p i))) (s:find (c o.length)=some (.inr fn)) :
  (o.filter keep=o/\A' find many (c 0)=some fn) \/
  (∃ k d,k<o.length/\A' find many (c 0)=some (p k)/\A' step many (st o k (k+1))=some (fin d (o.filter keep).length)/\d.length=o.length/\(o.filter keep).length<=o.length/\d.take (o.filter keep).length=o.filter keep):=by
 have C:4294967296<many:=by simp only[many];omega
 have b:∀ n,(∀ j,j<n->j<o.length->keep (o.getD j z)=true)->(o.take n).filter keep=o.take n:=by intro n t;rw[AcO];intro x u;obtain⟨j,l,rfl⟩:=AdX.1 u;have:=t j (by omega) (by omega);simpa [show j<o.length by omega]using this
 rcases AXA (step:=find) c o.length (fun i => !keep (o.getD i z)) p fn (by omega) (fun i hi=>by rw[f i hi];cases keep (o.getD i z)<;>rfl) s with⟨k,hk,hP,hF,e⟩|⟨hP,e⟩
 right;have q:keep (o.getD k z)=false:=by cases g:keep (o.getD k z);rfl;rw[g]at hP;cases hP
 have l:(o.take k).filter keep=o.take k:=b k fun j l _=>by have:=hF j l;cases g:keep (o.getD j z);rw[g]at this;cases this;rfl
 have m:(o.take (k+1)).filter keep=o.take k:=by rw[Od z hk,AcX,l,Ac6,q];simp
 obtain⟨d,v,y,A⟩:=AQK z st fin keep o h r (o.length-(k+1)) (k+1) k o many (by omega) rfl (by rw[m,AbU];omega) (by rw[m]) (by omega) rfl (by omega);exact⟨k,d,hk,e,by rw[Bo];exact v,y,Ach _ _,A⟩;left;refine⟨?_,e⟩;have:=b o.length fun j _ m=>by have:=hP j m;cases g:keep (o.getD j z);rw[g]at this;cases this;rfl
 rwa [AbM]at this
theorem ACj{a:List α}{w:Nat}(h:w<=a.length):(Cu w (a.length-w) z a).take w=a.take w/\(Cu w (a.length-w) z a).length=a.length:=by constructor;rw[Cu,List.take_append_of_le_length (by simp;omega),AdL,Nat.min_self];simp[Cu];omega
end
open Tok
def HG(x:Edge):Edge:=(min x.1 x.2.1,max x.1 x.2.1,())
abbrev WM:=List (Edge×Int)
def HF(m:WM)(x:Edge):Int:=(A_ m x).getD 0
theorem AQL(o:List Edge)(m:WM)(f:o.length<4294967296):
  ∃ a:List Edge,OA (o,m,())=some (a,m,(((o.filter fun x => !ieq (HF m x) 0).length:Nat):Int),())/\a.take (o.filter fun x => !ieq (HF m x) 0).length=o.filter fun x => !ieq (HF m x) 0:=by
 have g:=AJw (find:=Ek) (step:=ID) ((0:Int),(0:Int),()) (fun a (w j:Nat)=>(a,m,(w:Int),(j:Int),())) (fun a (w:Nat)=>.inl (a,m,(w:Int),())) (fun i=>(o,m,(o.length:Int),(i:Int),())) (fun i=>.inl (o,m,(i:Int),())) (.inr (.inl (o,m,()))) (fun x => !ieq (HF m x) 0) o f
  (fun a w j d h t l=>by
   unfold ID
   dsimp only
   simp (disch:=omega) only[A7,A3,d,h,Aa6,Gp ((0:Int),(0:Int),()),Lr,D8,l,A6]
   unfold HF
   grind)
  (fun a w d=>by unfold ID;dsimp only;rw[A7,A3,Aaq (by omega)])
  (fun i hi=>by
   unfold Ek
   dsimp only
   simp (disch:=omega) only[A3,hi,Aa6,Gp ((0:Int),(0:Int),()),Lr,A6]
   unfold HF
   grind)
  (by unfold Ek;dsimp only;rw[A3,Aaq (by omega)])
 rw[SF,N_,R_,N0];generalize (fun x => !ieq (HF m x) 0)=keep at *;rcases g with⟨n,e⟩|⟨k,b,u,e,p,v,q,y⟩
 have c:A' Ek many (o,m,A2 o,(0:Int),())=_:=e;simp only[c,BI];exact⟨o,by rw[n];rfl,by grind⟩;have c:A' Ek many (o,m,A2 o,(0:Int),())=_:=e;obtain⟨z,c2⟩:=ACj ((0:Int),(0:Int),()) (a:=b) (w:=(o.filter keep).length) (by omega);have r:EX (Cu (o.filter keep).length (b.length-(o.filter keep).length) ((0:Int),(0:Int),()) b) (0:Int) (((o.filter keep).length:Nat):Int)=some _:=bp (by omega);have s:EX b (((o.filter keep).length:Nat):Int) (b.length:Int)=some _:=Ti (by omega);simp only[c,BI];rw[Aaq (by omega),A6 (by omega)];simp only[p,s,A7,Acp,fB,r];grind
theorem zq{N:Nat}(h:1<=N)(j:N<=64)(ts:List Tie)(l:List Edge)(k:l.length<1073741824)(m:WM)(i:Nat)(x:Edge)(hi:i<l.length)(e:l[i]? = some x)(n:0<=HF m (HG x)/\HF m (HG x)<=(i:Int)):
  Ia ((N:Int),ts,m,l,(l.length:Int),(i:Int),())=if In (N:Int) x.1/\In (N:Int) x.2.1 then some (.inl ((N:Int),ts,BH m (HG x) (HF m (HG x)+1),l,(l.length:Int),((i+1:Nat):Int),()))else some (.inr (.inl (10,()))):=by unfold Ia;dsimp only;rw[A3,Aar hi];simp only[BA e,aH,aI];have a:w64 (HF m (HG x)+1)=HF m (HG x)+1:=BM (by omega);obtain⟨b,c⟩:=AA3 m (HG x) (HF m (HG x)) (HF m (HG x)+1);unfold HF HG at b c a;by_cases d:min x.1 x.2.1<0;rw[BF,Aar d,Aa2 (fun q=>by have f:=q.1.2.2.1;have g:=q.2.2.2.1;omega)];rw[BF,Aaq d];by_cases c2:(N:Int)<=max x.1 x.2.1;rw[BR,Aar c2,Aa2 (fun q=>by have f:=q.1.2.2.2;have g:=q.2.2.2.2;omega)];rw[BR,Aaq c2,Aa5 ⟨⟨by omega,by omega,by omega,by omega⟩,⟨by omega,by omega,by omega,by omega⟩⟩];simp only[b,a,c,A6 (show i+1<9223372036854775808 by omega)];rfl
theorem zr{N:Nat}(r:1<=N)(s:N<=64)(ts:List Tie)(l:List Edge)(t:l.length<1073741824):
  (¬ xF N l/\A' Ia many ((N:Int),ts,([]:WM),l,(l.length:Int),(0:Int),())=some (.inl (10,()))) \/
  (xF N l/\∃ m:WM,(∀ x,HF m x=0↔x∉l.map HG)/\A' Ia many ((N:Int),ts,([]:WM),l,(l.length:Int),(0:Int),())=some (.inr (.inl ((N:Int),ts,m,())))):=by
 have d:∀ (k i:Nat) (m:WM) (cnt:Nat),i+k=l.length->k<cnt->(∀ x,0<=HF m x/\HF m x<=(i:Int)/\(HF m x=0↔x∉(l.take i).map HG)) ->
   ((∃ x∈l.drop i,¬ (In (N:Int) x.1/\In (N:Int) x.2.1))/\BK Ia cnt ((N:Int),ts,m,l,(l.length:Int),(i:Int),())=some (.inl (10,()))) \/
   ((∀ x∈l.drop i,In (N:Int) x.1/\In (N:Int) x.2.1)/\∃ p:WM,(∀ x,HF p x=0↔x∉l.map HG)/\BK Ia cnt ((N:Int),ts,m,l,(l.length:Int),(i:Int),())=some (.inr (.inl ((N:Int),ts,p,())))):=by
  intro k
  induction k with
  |zero=>
   intro i m cnt hi u f
   obtain⟨cnt,rfl⟩:∃ c,cnt=c+1:=⟨cnt-1,by omega⟩
   right
   have:i=l.length:=by omega
   subst this
   refine⟨fun x b=>(by grind),m,fun x => ?_,?_⟩
   ·grind
   ·unfold Ia
    rw[BK]
    dsimp only
    rw[A3,Aaq (by omega)]
  |succ k v=>
   intro i m cnt hi u f
   obtain⟨cnt,rfl⟩:∃ c,cnt=c+1:=⟨cnt-1,by omega⟩
   have a:i<l.length:=by omega
   have b:l[i]? = some l[i]:=Aaz a
   have g:l.drop i=l[i]::l.drop (i+1):=Abl a
   have j:l.take (i+1)=l.take i++[l[i]]:=Abq a
   rw[g]
   generalize w:l[i]=x at *
   have z:=f (HG x)
   obtain⟨A,B,_⟩:=z
   rw[BK,zq r s ts l t m i x a b ⟨A,B⟩]
   by_cases n:In (N:Int) x.1/\In (N:Int) x.2.1
   ·rw[Aa5 n]
    have o:∀ y,HF (BH m (HG x) (HF m (HG x)+1)) y=if y=HG x then HF m (HG x)+1 else HF m y:=by
     intro y
     unfold HF
     rw[ABS]
     grind
    have:=v (i+1) (BH m (HG x) (HF m (HG x)+1)) cnt (by omega) (by omega) (fun y=>by
     rw[o]
     obtain⟨D,E,F⟩:=f y
     rw[j,Abm,Aa7]
     by_cases e:y=HG x
     all_goals grind)
    grind
   grind
 have G:∀ x:Edge,HF ([]:WM) x=0:=fun _=>rfl;have:=d l.length 0 [] many (by omega) (by simp only[many];omega) (fun x=>by simp_all);rw[List.drop_zero]at this;rw[Bo];rcases this with⟨⟨x,b,C⟩,e⟩|⟨h,e⟩
 exact .inl ⟨fun q=>C (q x b),e⟩;exact .inr ⟨h,e⟩
theorem AHJ{N:Nat}{ts:List Tie}(h:RG2 N ts)(l:List Edge)(s:l.length<1073741824):
  Yd (((N:Int),(ts,())),l,())=some (if ∀ e∈l,In (N:Int) e.1/\In (N:Int) e.2.1 then(Of N ts l,0,())else([],10,())):=by
 have F:=h.ht;rw[tJ,nY];simp only[h.lr,Aav,A7];rcases zr h.h1 h.hN ts l s with⟨t,e⟩|⟨g,m,u,e⟩
 rw[Aa2 (show ¬ ∀ e∈l,In (N:Int) e.1/\In (N:Int) e.2.1 from t)];grind
 ·rw[Aa5 (show ∀ e∈l,In (N:Int) e.1/\In (N:Int) e.2.1 from g)];obtain⟨a,v,w⟩:=AQL (ts.map ed) m (by grind);simp only[e,dj (N:Int) ts h.ht h.lr,v,C5,fB,w];congr 2;have z:((ts.map ed).filter fun x => !ieq (HF m x) 0)=(ts.map ed).filter fun x=>decide (x∈l.map HG):=by refine Acb fun x _ => ?_;rw[BI,AcH,Ab8,AbX,Acg,u x];simp
  rw[z];have p:((ts.map ed).filter fun x=>decide (x∈l.map HG)).Pairwise DY:=h.edP.filter _;have q:=ABk N ts l;have i:∀ x:Edge,x∈((ts.map ed).filter fun x=>decide (x∈l.map HG))↔x∈Of N ts l:=by
   intro x;unfold Of;rw[AbS,AbS,Hg,Acg,Acg];have r:∀ y:Edge,x=HG y->x.1<x.2.1->x=y\/x=(y.2.1,y.1,()):=by rintro⟨a,b,⟨⟩⟩ rfl c;unfold HG at c |-;grind
   constructor;rintro⟨d,f⟩;have c:=h.Aaj x d;obtain⟨A,B⟩:=h.inE x d;refine⟨⟨A.2.2.1,c,B.2.2.2,?_⟩,d⟩;obtain⟨y,G,C⟩:=AbA.1 f;unfold Lm;grind;·rintro⟨⟨d,f,H,k⟩,D⟩;refine⟨D,AbA.2 ?_⟩;obtain⟨a,b,⟨⟩⟩:=x;unfold HG;simp only at f;rcases k with k|k;all_goals grind
  have j:∀ a b:Edge,DY a b->DY b a->False:=fun a b d f=>by unfold DY at *;omega
  have n:((ts.map ed).filter fun x=>decide (x∈l.map HG)).Nodup:=p.imp fun {a b} E=>by grind
  have o:(Of N ts l).Nodup:=q.imp fun {a b} E=>by grind
  exact Aco (le:=DY) (fun a b _ _ d f=>(j a b d f).elim) p q ((Acw n o).2 i)
end Go.Pev.Pl
end
section

end
section

end
section

end
section
namespace Go.Pev.Pl
structure Tsk where
 lo:Nat
 hi:Nat
 up:Option Nat
 wait:Nat
theorem Y'{l:List Nat}(b:l.Nodup){a:Nat}(c:a∈l){Q Q':Nat->Bool}(h:∀ j∈l,j≠a->Q' j=Q j):
  l.countP Q'+(Q a).toNat=l.countP Q+(Q' a).toNat:=by
 induction l with
  |nil=>cases c
  |cons x l f=>
   rw[Abj]at b;rw[Adv,Adv];by_cases d:x=a;subst d;have:l.countP Q'=l.countP Q:=by refine Acx fun j e => ?_;grind
   grind;grind
def Nh(ts:List Tsk)(A:List Nat)(j:Nat):Bool:=A.contains j||match ts[j]? with
 |some t=>decide (0<t.wait)
 |none=>false
def K2(ts:List Tsk)(A:List Nat)(i j:Nat):Bool:=match ts[j]? with
 |some t=>decide (t.up=some i)&&Nh ts A j
 |none=>false
def kids(ts:List Tsk)(A:List Nat)(i:Nat):Nat:=(List.range ts.length).countP (K2 ts A i)
structure Tr(n:Nat)(ts:List Tsk)(A:List Nat)(u:Option Nat):Prop where
 tree:∀ (i:Nat) (t:Tsk),ts[i]? = some t->t.lo<t.hi/\t.hi<=n/\t.wait<=2/\(t.up=none->i=0)/\∀ x,t.up=some x->x<i
 nod:A.Nodup
 act:∀ a∈A,∃ t:Tsk,ts[a]? = some t/\t.wait=0
 leaf:∀ a∈A,∀ (j:Nat) (t:Tsk),ts[j]? = some t->t.up≠some a
 cnt:∀ (i:Nat) (t:Tsk),ts[i]? = some t->t.wait=kids ts A i+(if u=some i then 1 else 0)
theorem MU{ts:List Tsk}{A:List Nat}{j:Nat}{t:Tsk}(h:ts[j]? = some t):Nh ts A j=true↔j∈A\/0<t.wait:=by unfold Nh;grind
theorem Ph{ts:List Tsk}{A:List Nat}{i:Nat}:0<kids ts A i↔∃ (j:Nat) (t:Tsk),ts[j]? = some t/\t.up=some i/\Nh ts A j=true:=by unfold kids;rw[List.countP_pos_iff];constructor;rintro⟨j,_,h⟩;unfold K2 at h;grind;rintro⟨j,t,a,b,c⟩;refine⟨j,AbI.2 (AbC.1 a).1,?_⟩;unfold K2;grind
theorem Tr.descend{n:Nat}{ts:List Tsk}{A:List Nat}(h:Tr n ts A none):∀ (k i:Nat),ts.length-i<=k->∀ t:Tsk,ts[i]? = some t->Nh ts A i=true->A≠[]:=by
 intro k;induction k with
  |zero=>grind
  |succ k g=>intro i l t b c;rcases(MU b).1 c with a|a;grind;rw[h.cnt i t b]at a;simp at a;obtain⟨j,t',d,e,m⟩:=Ph.1 a;have f:=(h.tree j t' d).2.2.2.2 i e;grind
theorem Tr.AZN{n:Nat}{ts:List Tsk}{A:List Nat}(h:Tr n ts A none):∀ (i:Nat) (t:Tsk),ts[i]? = some t->Nh ts A i=true->Nh ts A 0=true:=by
 intro i;induction i using Nat.strongRecOn with
  |ind i d=>
   intro t b e;cases c:t.up with
    |none=>have:=(h.tree i t b).2.2.2.1 c;grind
    |some x=>have f:=(h.tree i t b).2.2.2.2 x c;have g:=(AbC.1 b).1;have a:ts[x]? = some (ts[x]'(by omega)):=Aaz (by omega);refine d x f _ a ((MU a).2 (.inr ?_));rw[h.cnt x _ a];have:=Ph.2 ⟨i,t,b,c,e⟩;omega
def fin:Nat->List Tsk->Option Nat->List Tsk×Bool
 |_,ts,none=>(ts,true)
 |0,ts,some _=>(ts,false)
 |k+1,ts,some x=>match ts[x]? with
  |none=>(ts,false)
  |some t=>if t.wait=0 then(ts,false)else if 0<t.wait-1 then(ts.set x { t with wait:=t.wait-1 },false)else fin k (ts.set x { t with wait:=t.wait-1 }) t.up
def Alike(ts a:List Tsk):Prop:=a.length=ts.length/\∀ (i:Nat) (t:Tsk),ts[i]? = some t->∃ t':Tsk,a[i]? = some t'/\t'.lo=t.lo/\t'.hi=t.hi/\t'.up=t.up
theorem Alike.refl(ts:List Tsk):Alike ts ts:=⟨rfl,fun _ t h=>⟨t,h,rfl,rfl,rfl⟩⟩
theorem Alike.trans{a b c:List Tsk}(h:Alike a b)(k:Alike b c):Alike a c:=
 ⟨k.1.trans h.1,fun i t d=>by obtain⟨t',e,g,j,l⟩:=h.2 i t d;obtain⟨f,m,n,o,p⟩:=k.2 i t' e;grind⟩
theorem VD{α:Type}{l:List α}{x i:Nat}{a t:α}(h:(l.set x a)[i]? = some t):(i=x/\t=a/\x<l.length)\/(i≠x/\l[i]? = some t):=by grind
theorem cF{α:Type}{l:List α}{x:Nat}{a b:α}(h:l[x]? = some b):(l.set x a)[x]? = some a:=by grind
theorem ASc{α:Type}{l:List α}{x i:Nat}{a:α}(h:i≠x):(l.set x a)[i]? = l[i]? := by grind
theorem YH{ts:List Tsk}{x:Nat}{t:Tsk}(h:ts[x]? = some t)(w:Nat):Alike ts (ts.set x { t with wait:=w }):=by refine⟨by simp,fun i s a => ?_⟩;grind
theorem AOq{ts:List Tsk}{A:List Nat}{x:Nat}{t:Tsk}(h:ts[x]? = some t)(w:Nat)(i j:Nat)(a:j≠x):K2 (ts.set x { t with wait:=w }) A i j=K2 ts A i j:=by unfold K2 Nh;grind
theorem aA{ts:List Tsk}{A:List Nat}{x:Nat}{t:Tsk}(h:ts[x]? = some t)(i:Nat):K2 ts A i x=(decide (t.up=some i)&&(A.contains x||decide (0<t.wait))):=by unfold K2 Nh;rw[h]
theorem AOp{ts:List Tsk}{A:List Nat}{x:Nat}{t:Tsk}(h:ts[x]? = some t)(w i:Nat):
  kids (ts.set x { t with wait:=w }) A i+(decide (t.up=some i)&&(A.contains x||decide (0<t.wait))).toNat=kids ts A i+(decide (t.up=some i)&&(A.contains x||decide (0<w))).toNat:=by unfold kids;rw[AdB];have:=Y' (l:=List.range ts.length) AcM (AbI.2 (AbC.1 h).1) (Q:=K2 ts A i) (Q':=K2 (ts.set x { t with wait:=w }) A i) (fun j _ a=>AOq h w i j a);rw[aA h,aA (cF h)]at this;omega
theorem AYx{n:Nat}:∀ (k:Nat) (ts:List Tsk) (A:List Nat) (u:Option Nat),Tr n ts A u->(∀ x,u=some x->x<k/\x<ts.length/\x∉A)->(u=none->Nh ts A 0=false) ->
  ∃ d,fin k ts u=(d,A.isEmpty)/\Tr n d A none/\Alike ts d:=by
 have D:∀ {ts:List Tsk} {A:List Nat},Tr n ts A none->Nh ts A 0=false->A.isEmpty=true:=by
  intro ts A h M;cases A with
   |nil=>rfl
   |cons a A=>obtain⟨t,o,_⟩:=h.act a (by simp);have:=h.AZN a t o ((MU o).2 (.inl (by simp)));grind
 intro k;induction k with
  |zero=>
   intro ts A u h C o;cases u with
    |some x=>grind
    |none=>exact⟨ts,by unfold fin;grind,h,Alike.refl ts⟩
  |succ k E=>
   intro ts A u h C o;cases u with
    |none=>exact⟨ts,by unfold fin;grind,h,Alike.refl ts⟩
    |some x=>
     obtain⟨N,F,O⟩:=C x rfl;have c:ts[x]? = some (ts[x]):=Aaz F;generalize ts[x]=t at c;have G:=h.cnt x t c;rw[Aa5 rfl]at G;have m:A.contains x=false:=by grind
     have v:=fun i=>AOp (A:=A) c (t.wait-1) i;have w:=h.tree x t c;have e:∀ (i:Nat) (s:Tsk),(ts.set x { t with wait:=t.wait-1 })[i]? = some s->s.lo<s.hi/\s.hi<=n/\s.wait<=2/\(s.up=none->i=0)/\∀ x,s.up=some x->x<i:=by
      intro i s b;rcases VD b with⟨rfl,rfl,_⟩|⟨_,b⟩
      grind;exact h.tree i s b
     have g:∀ a∈A,∃ s:Tsk,(ts.set x { t with wait:=t.wait-1 })[a]? = some s/\s.wait=0:=fun a p=>by rw[ASc (by grind)];exact h.act a p
     have f:∀ a∈A,∀ (j:Nat) (s:Tsk),(ts.set x { t with wait:=t.wait-1 })[j]? = some s->s.up≠some a:=by
      intro a p j s b;rcases VD b with⟨rfl,rfl,_⟩|⟨_,b⟩
      exact h.leaf a p j t c;exact h.leaf a p j s b
     by_cases q:0<t.wait-1;have l:∀ i,kids (ts.set x { t with wait:=t.wait-1 }) A i=kids ts A i:=fun i=>by have:=v i;rw[m,Aar q,Aar (show 0<t.wait by omega)]at this;omega
     have r:Tr n (ts.set x { t with wait:=t.wait-1 }) A none:=⟨e,h.nod,g,f,fun i s b=>by
      rw[l];rcases VD b with⟨rfl,rfl,_⟩|⟨z,b⟩
      grind;rw[h.cnt i s b,Aa2 (by grind)];simp⟩
     refine⟨_,?_,r,YH c _⟩;unfold fin;rw[c];simp only;rw[Aa2 (by omega),Aa5 q];have:A≠[]:=r.descend _ x (Aax _) _ (cF c) ((MU (cF c)).2 (.inr q));grind
     ·have H:t.wait=1:=by omega
      have B:∀ i,kids (ts.set x { t with wait:=t.wait-1 }) A i+(decide (t.up=some i)).toNat=kids ts A i:=fun i=>by grind
      have r:Tr n (ts.set x { t with wait:=t.wait-1 }) A t.up:=⟨e,h.nod,g,f,fun i s b=>by
       have P:=B i;rcases VD b with⟨rfl,rfl,_⟩|⟨z,b⟩
       grind;·rw[h.cnt i s b,Aa2 (by grind)];by_cases Q:t.up=some i;all_goals grind⟩
      obtain⟨d,I,J,K⟩:=E _ A t.up r (fun y R=>by
       grind) (fun L=>by
       have:=w.2.2.2.1 L;subst this;have:¬ Nh (ts.set 0 { t with wait:=t.wait-1 }) A 0=true:=by rw[MU (cF c)];grind
       grind)
      refine⟨d,?_,J,(YH c _).trans K⟩;unfold fin;rw[c];simp only;rw[Aa2 (by omega),Aa2 q,I]
theorem Tr.part{n:Nat}{ts:List Tsk}{a:Nat}{A:List Nat}(h:Tr n ts (a::A) none){t:Tsk}(m:ts[a]? = some t){B6:Nat}(H:t.lo<B6)(I:B6<t.hi):
  Tr n (ts.set a { t with wait:=2 }++[⟨t.lo,B6,some a,0⟩,⟨B6,t.hi,some a,0⟩]) (ts.length::(ts.length+1)::A) none:=by
 have z:=(AbC.1 m).1;have f:=h.nod;rw[Abj]at f;have B:∀ x∈A,x<ts.length:=fun x c=>by obtain⟨s,d,_⟩:=h.act x (by simp[c]);grind
 have b:∀ {i:Nat} {s:Tsk},(ts.set a { t with wait:=2 }++[⟨t.lo,B6,some a,0⟩,⟨B6,t.hi,some a,0⟩])[i]? = some s ->
   (i=a/\s = { t with wait:=2 })\/(i≠a/\i<ts.length/\ts[i]? = some s)\/(i=ts.length/\s=⟨t.lo,B6,some a,0⟩)\/(i=ts.length+1/\s=⟨B6,t.hi,some a,0⟩):=by
  grind
 have r:=h.tree a t m;have g:∀ {i:Nat} {s:Tsk},i≠a->ts[i]? = some s->(ts.set a { t with wait:=2 }++[⟨t.lo,B6,some a,0⟩,⟨B6,t.hi,some a,0⟩])[i]? = some s:=by grind
 have w:(ts.set a { t with wait:=2 }++[⟨t.lo,B6,some a,0⟩,⟨B6,t.hi,some a,0⟩])[a]? = some { t with wait:=2 }:=by grind
 have C:(ts.set a { t with wait:=2 }++[⟨t.lo,B6,some a,0⟩,⟨B6,t.hi,some a,0⟩])[ts.length]? = some ⟨t.lo,B6,some a,0⟩:=by simp
 have D:(ts.set a { t with wait:=2 }++[⟨t.lo,B6,some a,0⟩,⟨B6,t.hi,some a,0⟩])[ts.length+1]? = some ⟨B6,t.hi,some a,0⟩:=by simp
 refine⟨?_,?_,?_,?_,?_⟩
 ·intro i s d;rcases b d with⟨rfl,rfl⟩|⟨_,_,d⟩|⟨rfl,rfl⟩|⟨rfl,rfl⟩
  grind;exact h.tree i s d;all_goals grind
 grind;intro x c;simp only[AbD]at c;rcases c with rfl|rfl|c;simp;simp;obtain⟨s,d,J⟩:=h.act x (by simp[c]);grind
 ·intro x c j s d;simp only[AbD]at c;have E:x≠a:=by grind
  rcases b d with⟨rfl,rfl⟩|⟨_,o,d⟩|⟨rfl,rfl⟩|⟨rfl,rfl⟩
  show t.up≠some x;intro e;have:=r.2.2.2.2 x e;rcases c with rfl|rfl|c;omega;omega;exact h.leaf x (by simp[c]) j t m e;intro e;have:=(h.tree j s d).2.2.2.2 x e;rcases c with rfl|rfl|c;omega;omega;exact h.leaf x (by simp[c]) j s d e;all_goals grind
 intro i s d;have F:kids (ts.set a { t with wait:=2 }++[⟨t.lo,B6,some a,0⟩,⟨B6,t.hi,some a,0⟩]) (ts.length::(ts.length+1)::A) i=kids ts (a::A) i+if i=a then 2 else 0:=by
  unfold kids;rw[Aa3,AdB];show(List.range (ts.length+2)).countP _=_;rw[AbJ,AbJ,List.countP_append,List.countP_append];have y:(List.range ts.length).countP (K2 (ts.set a { t with wait:=2 }++[⟨t.lo,B6,some a,0⟩,⟨B6,t.hi,some a,0⟩]) (ts.length::(ts.length+1)::A) i)=(List.range ts.length).countP (K2 ts (a::A) i):=by
   refine Acx fun j o => ?_;rw[AbI]at o;by_cases k:j=a;subst k;unfold K2 Nh;grind;have l:ts[j]? = some ts[j]:=Aaz o;unfold K2 Nh;rw[g k l,l];have p:¬ j=ts.length:=by omega
   have q:¬ j=ts.length+1:=by omega
   grind
  rw[y];have G:K2 (ts.set a { t with wait:=2 }++[⟨t.lo,B6,some a,0⟩,⟨B6,t.hi,some a,0⟩]) (ts.length::(ts.length+1)::A) i ts.length=decide (i=a):=by unfold K2 Nh;grind
  have K:K2 (ts.set a { t with wait:=2 }++[⟨t.lo,B6,some a,0⟩,⟨B6,t.hi,some a,0⟩]) (ts.length::(ts.length+1)::A) i (ts.length+1)=decide (i=a):=by unfold K2 Nh;grind
  grind
 rw[F];rcases b d with⟨rfl,rfl⟩|⟨u,o,d⟩|⟨rfl,rfl⟩|⟨rfl,rfl⟩
 have:=h.cnt i t m;obtain⟨t',y,G⟩:=h.act i (by simp);grind;rw[Aa2 u];exact h.cnt i s d;rw[Aa2 (by omega)];have:kids ts (a::A) ts.length=0:=by refine Nat.eq_zero_of_not_pos fun v => ?_;obtain⟨j,s,p,q,_⟩:=Ph.1 v;have:=(h.tree j s p).2.2.2.2 _ q;grind
 grind;rw[Aa2 (by omega)];have:kids ts (a::A) (ts.length+1)=0:=by refine Nat.eq_zero_of_not_pos fun v => ?_;obtain⟨j,s,p,q,_⟩:=Ph.1 v;have:=(h.tree j s p).2.2.2.2 _ q;grind
 grind
theorem AI4{ts:List Tsk}{A B:List Nat}(h:A.Perm B)(i:Nat):kids ts A i=kids ts B i:=by unfold kids;refine Acx fun j _ => ?_;unfold K2 Nh;grind
theorem Tr.perm{n:Nat}{ts:List Tsk}{A B:List Nat}(h:Tr n ts A none)(b:A.Perm B):Tr n ts B none:=
 ⟨h.tree,b.nodup_iff.1 h.nod,fun a c=>h.act a (b.mem_iff.2 c),fun a c=>h.leaf a (b.mem_iff.2 c),fun i t d=>by rw[<- AI4 b];exact h.cnt i t d⟩
theorem Tr.did{n:Nat}{ts:List Tsk}{a:Nat}{A:List Nat}(h:Tr n ts (a::A) none){t:Tsk}(c:ts[a]? = some t):
  ∃ d,fin ts.length ts t.up=(d,A.isEmpty)/\Tr n d A none/\Alike ts d:=by
 have b:=h.nod;rw[Abj]at b;have g:=(AbC.1 c).1;obtain⟨t',k,m⟩:=h.act a (by simp);rw[c]at k;cases k;have f:=h.tree a t c;have o:∀ i,kids ts A i+(decide (t.up=some i)).toNat=kids ts (a::A) i:=by
  intro i;unfold kids;have:=Y' (l:=List.range ts.length) AcM (AbI.2 g) (Q:=K2 ts (a::A) i) (Q':=K2 ts A i) (fun j _ u=>by unfold K2 Nh;grind)
  rw[aA c,aA c,m]at this;grind
 refine AYx ts.length ts A t.up ⟨h.tree,b.2,fun x e=>h.act x (by simp[e]),fun x e=>h.leaf x (by simp[e]),fun i s p => ?_⟩ (fun x e => ?_) (fun q => ?_);have v:=o i;have w:=h.cnt i s p;grind;have:=f.2.2.2.2 x e;exact⟨by omega,by omega,fun r=>h.leaf x (by grind) a t c e⟩;have:=f.2.2.2.1 q;subst this;have:¬ Nh ts A 0=true:=by rw[MU c];grind
 grind
def rng(ts:List Tsk)(a:Nat):List Nat:=match ts[a]? with
 |some t=>List.range' t.lo (t.hi-t.lo)
 |none=>[]
def tkN(g n:Nat):Nat:=if n<=g\/n<=1 then 1 else tkN g (n/2)+tkN g (n-n/2)+1
termination_by n
decreasing_by all_goals omega
theorem ARx(g n:Nat):1<=tkN g n:=by rw[tkN];split<;>omega
theorem AXj(g:Nat):∀ n:Nat,1<=n->tkN g n<=2*n-1:=by
 intro n;induction n using Nat.strongRecOn with
  |_ n a=>intro b;rw[tkN];split;omega;rename_i h;have c:=a (n/2) (by omega) (by omega);have d:=a (n-n/2) (by omega) (by omega);omega
theorem mZ:∀ n:Nat,1<=n->tkN 1 n=2*n-1:=by
 intro n;induction n using Nat.strongRecOn with
  |_ n a=>intro b;rw[tkN];split;omega;rename_i h;rw[a (n/2) (by omega) (by omega),a (n-n/2) (by omega) (by omega)];omega
theorem ALl{g n:Nat}(a:1<=g)(h:g<n):tkN g (n/2)+tkN g (n-n/2)<tkN g n:=by
 conv=>rhs;rw[tkN]
 rw[Aa2 (by omega)];omega
def Rs(g:Nat)(ts:List Tsk)(a:Nat):Nat:=match ts[a]? with
 |some t=>tkN g (t.hi-t.lo)
 |none=>0
def pot(g:Nat)(ts:List Tsk)(A:List Nat):Nat:=(A.map (Rs g ts)).sum
def R5(a:List Bool)(b:Nat):Nat->List Bool
 |0=>a
 |k+1=>(R5 a b k).set (b+k) true
theorem AIo(a:List Bool)(b k:Nat):(R5 a b k).length=a.length:=by
 induction k with
  |zero=>rfl
  |succ k c=>unfold R5;grind
theorem AIp(b:List Bool)(a k u:Nat)(c:u<b.length):(R5 b a k)[u]? = some (decide (a<=u/\u<a+k)||b[u]):=by
 induction k with
  |zero=>
   have:¬ (a<=u/\u<a+0):=by omega
   rw[Aaq this];exact Aaz c
  |succ k d=>unfold R5;rw[Acz];by_cases h:a+k=u;rw[Aa5 h,Aa5 (by grind),Aar (by omega)];rfl;rw[Aa2 h,d];congr 2;grind
structure Iv(n:Nat)(ts:List Tsk)(dn:List Bool)(A U:List Nat)(D:Nat):Prop where
 len:dn.length=n
 tr:Tr n ts A none
 units:(A.flatMap (rng ts)++U).Perm (List.range n)
 dn:∀ u,u<n->dn[u]? = some (decide (u∈U))
 size:ts.length+1=2*(A.length+D)
 dle:D<=U.length
theorem pI{α β:Type}{l a:List α}(h:l.Perm a)(f:α->List β):(l.flatMap f).Perm (a.flatMap f):=by
 induction h with
  |nil=>simp
  |cons x _ b=>rw[Abr,Abr];exact b.append_left _
  |swap x y l=>simp only[Abr,<- AcC];exact List.perm_append_comm.append_right _
  |trans _ _ c d=>exact c.trans d
theorem Iv.perm{n:Nat}{ts:List Tsk}{b:List Bool}{A B U:List Nat}{D:Nat}(h:Iv n ts b A U D)(a:A.Perm B):Iv n ts b B U D:=
 ⟨h.len,h.tr.perm a,((pI a.symm _).append_right _).trans h.units,h.dn,by rw[<- a.length_eq];exact h.size,h.dle⟩
theorem cw{g:Nat}{ts:List Tsk}{A B:List Nat}(a:A.Perm B):pot g ts A=pot g ts B:=(a.map _).sum_nat
theorem MK{ts b:List Tsk}(h:Alike ts b){a:Nat}(c:a<ts.length):rng b a=rng ts a/\∀ g,Rs g b a=Rs g ts a:=by have d:ts[a]? = some ts[a]:=Aaz c;obtain⟨t',e,f,i,_⟩:=h.2 a _ d;unfold rng Rs;grind
theorem Iv.lt{n:Nat}{ts:List Tsk}{b:List Bool}{A U:List Nat}{D:Nat}(h:Iv n ts b A U D){a:Nat}(c:a∈A):a<ts.length:=by obtain⟨t,d,_⟩:=h.tr.act a c;grind
theorem Ki{α β:Type}{l:List α}{f g:α->List β}(h:∀ x∈l,f x=g x):l.flatMap f=l.flatMap g:=by
 induction l with
  |nil=>rfl
  |cons x l a=>grind
theorem nR{a B6 hi:Nat}(b:a<=B6)(c:B6<=hi):List.range' a (B6-a)++List.range' B6 (hi-B6)=List.range' a (hi-a):=by have:=List.range'_append_1 (s:=a) (m:=B6-a) (n:=hi-B6);grind
theorem Iv.part{g n:Nat}{ts:List Tsk}{i:List Bool}{a:Nat}{A U:List Nat}{D:Nat}(h:Iv n ts i (a::A) U D){t:Tsk}(f:ts[a]? = some t){B6:Nat}(o:t.lo<B6)(p:B6<t.hi)(r:tkN g (B6-t.lo)+tkN g (t.hi-B6)<tkN g (t.hi-t.lo)):
  Iv n (ts.set a { t with wait:=2 }++[⟨t.lo,B6,some a,0⟩,⟨B6,t.hi,some a,0⟩]) i (ts.length::(ts.length+1)::A) U D /\
  pot g (ts.set a { t with wait:=2 }++[⟨t.lo,B6,some a,0⟩,⟨B6,t.hi,some a,0⟩]) (ts.length::(ts.length+1)::A)<pot g ts (a::A) /\
  ∀ x,x<ts.length->rng (ts.set a { t with wait:=2 }++[⟨t.lo,B6,some a,0⟩,⟨B6,t.hi,some a,0⟩]) x=rng ts x:=by
 have b:∀ x,x<ts.length->rng (ts.set a { t with wait:=2 }++[⟨t.lo,B6,some a,0⟩,⟨B6,t.hi,some a,0⟩]) x=rng ts x/\Rs g (ts.set a { t with wait:=2 }++[⟨t.lo,B6,some a,0⟩,⟨B6,t.hi,some a,0⟩]) x=Rs g ts x:=by intro x c;have j:=MK (YH f 2) c;rw[<- j.1,<- j.2 g];unfold rng Rs;grind
 have d:(ts.set a { t with wait:=2 }++[⟨t.lo,B6,some a,0⟩,⟨B6,t.hi,some a,0⟩])[ts.length]? = some ⟨t.lo,B6,some a,0⟩:=by simp
 have e:(ts.set a { t with wait:=2 }++[⟨t.lo,B6,some a,0⟩,⟨B6,t.hi,some a,0⟩])[ts.length+1]? = some ⟨B6,t.hi,some a,0⟩:=by simp
 have k:∀ x∈A,x<ts.length:=fun x c=>h.lt (by simp[c]);refine⟨⟨h.len,h.tr.part f o p,?_,h.dn,?_,h.dle⟩,?_,fun x c=>(b x c).1⟩;rw[Abr,Abr,Ki fun x c=>(b x (k x c)).1];have l:rng (ts.set a { t with wait:=2 }++[⟨t.lo,B6,some a,0⟩,⟨B6,t.hi,some a,0⟩]) ts.length=List.range' t.lo (B6-t.lo):=by unfold rng;rw[d]
 have m:rng (ts.set a { t with wait:=2 }++[⟨t.lo,B6,some a,0⟩,⟨B6,t.hi,some a,0⟩]) (ts.length+1)=List.range' B6 (t.hi-B6):=by unfold rng;rw[e]
 rw[l,m,<- AcC,nR (by omega) (by omega)];have:=h.units;rw[Abr]at this;have q:rng ts a=List.range' t.lo (t.hi-t.lo):=by unfold rng;rw[f]
 grind;have:=h.size;grind;unfold pot;rw[AbL,AbL,AbL,List.sum_cons,List.sum_cons,List.sum_cons,AcN fun x c=>(b x (k x c)).2];have l:Rs g (ts.set a { t with wait:=2 }++[⟨t.lo,B6,some a,0⟩,⟨B6,t.hi,some a,0⟩]) ts.length=tkN g (B6-t.lo):=by unfold Rs;rw[d]
 have m:Rs g (ts.set a { t with wait:=2 }++[⟨t.lo,B6,some a,0⟩,⟨B6,t.hi,some a,0⟩]) (ts.length+1)=tkN g (t.hi-B6):=by unfold Rs;rw[e]
 have q:Rs g ts a=tkN g (t.hi-t.lo):=by unfold Rs;rw[f]
 omega
theorem Iv.did(g:Nat){n:Nat}{ts:List Tsk}{f:List Bool}{a:Nat}{A U:List Nat}{D:Nat}(h:Iv n ts f (a::A) U D){t:Tsk}(d:ts[a]? = some t):
  ∃ b,fin ts.length ts t.up=(b,A.isEmpty)/\Iv n b (R5 f t.lo (t.hi-t.lo)) A (U++rng ts a) (D+1)/\pot g b A<pot g ts (a::A)/\Alike ts b:=by
 obtain⟨b,k,l,e⟩:=h.tr.did d;have i:∀ x∈A,x<ts.length:=fun x c=>h.lt (by simp[c]);have m:=h.tr.tree a t d;have o:rng ts a=List.range' t.lo (t.hi-t.lo):=by unfold rng;rw[d]
 refine⟨b,k,⟨by rw[AIo];exact h.len,l,?_,?_,?_,?_⟩,?_,e⟩;rw[Ki fun x c=>(MK e (i x c)).1];refine List.Perm.trans ?_ h.units;grind;intro u j;rw[AIp _ _ _ _ (by rw[h.len];exact j)];have p:=h.dn u j;grind;rw[e.1];have:=h.size;grind;rw[Aa3,o,List.length_range'];have:=h.dle;omega;unfold pot;rw[AbL,List.sum_cons,AcN fun x c=>(MK e (i x c)).2 g];have:Rs g ts a=tkN g (t.hi-t.lo):=by unfold Rs;rw[d]
 have:=ARx g (t.hi-t.lo);omega
theorem Iv.bound{n:Nat}{ts:List Tsk}{c:List Bool}{A U:List Nat}{D:Nat}(h:Iv n ts c A U D):A.length+D<=n:=by
 have b:=h.units.length_eq;rw[Aa3,Aa9]at b;have f:A.length<=(A.flatMap (rng ts)).length:=by
  have g:∀ x∈A,0<(rng ts x).length:=fun x d=>by obtain⟨t,e,_⟩:=h.tr.act x d;have:=(h.tr.tree x t e).1;unfold rng;grind
  clear b h;induction A with
   |nil=>simp
   |cons a A i=>grind
 have:=h.dle;omega
theorem Iv.AZK{n:Nat}{ts:List Tsk}{c:List Bool}{a:Nat}{A U:List Nat}{D:Nat}(h:Iv n ts c (a::A) U D){t:Tsk}(d:ts[a]? = some t){B6:Nat}(e:t.lo<B6)(f:B6<t.hi):ts.length+2+1<=2*n:=by have b:=(h.part (g:=1) d e f (by rw[mZ _ (by omega),mZ _ (by omega),mZ _ (by omega)];omega)).1;have:=b.bound;have i:=b.size;grind
theorem Iv.AXa{n:Nat}{ts:List Tsk}{c:List Bool}{A U:List Nat}{D:Nat}(h:Iv n ts c A U D){a:Nat}(d:a∈A){t:Tsk}(e:ts[a]? = some t):c[t.lo]? = some false:=by have f:=h.tr.tree a t e;rw[h.dn t.lo (by omega)];congr 1;rw[AbX];intro g;have b:=(h.units.nodup_iff).2 AcM;rw[Adi]at b;refine b.2.2 t.lo (Ab4.2 ⟨a,d,?_⟩) t.lo g rfl;unfold rng;grind
structure Crw where
 ts:List Tsk
 dn:List Bool
 ds:List (List Nat)
 ov:Bool
 st:Nat
 idl:Nat
structure Evt where
 w:Nat
 ft:Option (Nat×Nat)
 pt:Bool
def found(ds:List (List Nat))(p v:Nat):Option (Nat×Nat×List (List Nat)):=
 match(ds.getD p []).getLast? with
 |some t=>some (t,p,ds.set p (ds.getD p []).dropLast)
 |none=>match ds.getD v []with
  |t::r=>some (t,v,ds.set v r)
  |[]=>none
def B6(k:Tsk):Nat:=k.lo+(k.hi-k.lo)/2
def stp(g:Nat)(c:Crw)(p v:Nat):Crw×Evt:=
 match found c.ds p v with
 |none=>({ c with st:=c.st+1,idl:=c.idl+1 },⟨p,none,false⟩)
 |some (t,f,ds)=>match c.ts[t]? with
  |none=>(c,⟨p,none,false⟩)
  |some k=>if g<k.hi-k.lo then
    ({ c with ts:=c.ts.set t { k with wait:=2 }++[⟨k.lo,B6 k,some t,0⟩,⟨B6 k,k.hi,some t,0⟩],ds:=ds.set p (ds.getD p []++[c.ts.length+1,c.ts.length]),st:=c.st+1 },⟨p,some (f,t),true⟩)
   else({ ts:=(fin c.ts.length c.ts k.up).1,dn:=R5 c.dn k.lo (k.hi-k.lo),ds:=ds,ov:=c.ov||(fin c.ts.length c.ts k.up).2,st:=c.st+1,idl:=c.idl },⟨p,some (f,t),false⟩)
theorem APi{α:Type}{l:List α}{i:Nat}{a d:α}(h:l[i]? = some a):l.getD i d=a:=by grind
theorem pH{l:List (List Nat)}{p:Nat}{x:List Nat}(h:l[p]? = some x)(y:List Nat):∃ R,l.flatten.Perm (x++R)/\(l.set p y).flatten.Perm (y++R):=by
 induction l generalizing p with
  |nil=>simp at h
  |cons a l b=>
   cases p with
    |zero=>grind
    |succ p=>obtain⟨R,c,d⟩:=b (by simpa using h);refine⟨a++R,?_,?_⟩;all_goals grind
theorem eT{ds:List (List Nat)}{p v t f:Nat}{ds':List (List Nat)}(i:p<ds.length)(j:v<ds.length)(h:found ds p v=some (t,f,ds')):ds.flatten.Perm (t::ds'.flatten)/\ds'.length=ds.length/\f<ds.length:=by
 have b:ds[p]? = some (ds.getD p []):=by grind
 have c:ds[v]? = some (ds.getD v []):=by grind
 unfold found at h;split at h;rename_i x a;simp only[Aas,Aa4]at h;obtain⟨rfl,rfl,rfl⟩:=h;obtain⟨ys,d⟩:=AdW.1 a;rw[d,List.dropLast_concat];rw[d]at b;obtain⟨R,e,g⟩:=pH b ys;grind;split at h;rename_i x r a;simp only[Aas,Aa4]at h;obtain⟨rfl,rfl,rfl⟩:=h;rw[a]at c;obtain⟨R,e,g⟩:=pH c r;grind;grind
theorem ABs{ds:List (List Nat)}{p v:Nat}(h:found ds p v=none):ds.getD p []=[]/\ds.getD v []=[]:=by unfold found at h;split at h;cases h;·rename_i a;split at h;all_goals simp_all
def evU(ts:List Tsk)(E:List Evt):List Nat:=E.flatMap fun e=>match e.ft with
 |some (_,t)=>if e.pt then []else rng ts t
 |none=>[]
structure StI(n W:Nat)(c:Crw)(E:List Evt):Prop where
 iv:∃ D,Iv n c.ts c.dn c.ds.flatten (evU c.ts E) D
 ov:c.ov=c.ds.flatten.isEmpty
 w:c.ds.length=W
 ev:∀ e∈E,∀ f t,e.ft=some (f,t)->t<c.ts.length
 st:c.st=E.length
 idl:c.idl<=E.length
theorem aM(ts:List Tsk)(E a:List Evt):evU ts (E++a)=evU ts E++evU ts a:=by unfold evU;simp
theorem kq{ts a:List Tsk}{E:List Evt}(b:∀ e∈E,∀ f t,e.ft=some (f,t)->t<ts.length)(h:∀ x,x<ts.length->rng a x=rng ts x):evU a E=evU ts E:=by unfold evU;refine Ki fun e c => ?_;grind
theorem mc{g n W:Nat}{c:Crw}{E:List Evt}{p v:Nat}(F:1<=g)(h:StI n W c E)(B:p<W)(G:v<W):
  StI n W (stp g c p v).1 (E++[(stp g c p v).2]) /\
  (((stp g c p v).1.ds=c.ds/\(stp g c p v).1.ts=c.ts/\c.ds.getD p []=[])\/pot g (stp g c p v).1.ts (stp g c p v).1.ds.flatten<pot g c.ts c.ds.flatten):=by
 obtain⟨D,m⟩:=h.iv;unfold stp;cases C:found c.ds p v with
  |none=>refine⟨⟨⟨D,?_⟩,h.ov,h.w,?_,by simp[h.st],by have:=h.idl;grind⟩,.inl ⟨rfl,rfl,(ABs C).1⟩⟩;rw[aM];simpa [evU]using m;intro e b f t i;rcases Aa7.1 b with b|b;exact h.ev e b f t i;grind
  |some q=>
   obtain⟨t,f,ds'⟩:=q;obtain⟨s,u,U⟩:=eT (by rw[h.w];exact B) (by rw[h.w];exact G) C;have d:=m.perm s;obtain⟨k,o,H⟩:=d.tr.act t (by simp);have I:=d.tr.tree t k o;have y:=(AbC.1 o).1;simp only[o];by_cases l:g<k.hi-k.lo;rw[Aa5 l];have J:k.lo<B6 k:=by unfold B6;omega
   have K:B6 k<k.hi:=by unfold B6;omega
   have L:tkN g (B6 k-k.lo)+tkN g (k.hi-B6 k)<tkN g (k.hi-k.lo):=by have:=ALl F l;unfold B6;rwa [show k.lo+(k.hi-k.lo)/2-k.lo=(k.hi-k.lo)/2 by omega,show k.hi-(k.lo+(k.hi-k.lo)/2)=k.hi-k.lo-(k.hi-k.lo)/2 by omega]
   obtain⟨M,N,O⟩:=d.part o J K L;have r:p<ds'.length:=by rw[u,h.w];exact B
   obtain⟨R,V,X⟩:=pH (p:=p) (x:=ds'.getD p []) (by rw[Aaz r,APi (Aaz r)]) (ds'.getD p []++[c.ts.length+1,c.ts.length]);have a:(c.ts.length::(c.ts.length+1)::ds'.flatten).Perm (ds'.set p (ds'.getD p []++[c.ts.length+1,c.ts.length])).flatten:=by grind
   refine⟨⟨⟨D,?_⟩,?_,by simp[u,h.w],?_,by simp[h.st],by have:=h.idl;grind⟩,.inr ?_⟩;rw[aM,kq h.ev O];have:=M.perm a;simpa [evU]using this;show c.ov=_;rw[h.ov];have P:c.ds.flatten≠[]:=by intro e;simp_all
   have Y:(ds'.set p (ds'.getD p []++[c.ts.length+1,c.ts.length])).flatten≠[]:=by intro e;rw[e]at a;simp_all
   grind;intro e b z t' i;rcases Aa7.1 b with b|b;have:=h.ev e b z t' i;grind;grind;show pot g _ _<_;rw[<- cw a,cw s];exact N;rw[Aa2 l];obtain⟨j,Q,Z,S,A⟩:=d.did g o;rw[Q];refine⟨⟨⟨D+1,?_⟩,?_,by rw[<- h.w];exact u,?_,by simp[h.st],by have:=h.idl;grind⟩,.inr ?_⟩;show Iv n j _ ds'.flatten (evU j _) _;rw[aM,kq h.ev fun x T=>(MK A T).1];have:evU j [⟨p,some (f,t),false⟩]=rng c.ts t:=by unfold evU;simp[(MK A y).1]
   grind;show(c.ov||_)=_;rw[h.ov];have P:c.ds.flatten≠[]:=by intro e;simp_all
   grind;intro e b z t' i;show t'<j.length;rw[A.1];rcases Aa7.1 b with b|b;exact h.ev e b z t' i;grind;show pot g j _<_;rw[cw s];exact S
def BP(g W:Nat)(c:Crw×List Evt):Nat->Crw×List Evt
 |0=>c
 |t+1=>let s:=BP g W c t
  if s.1.ov then s else
   let x:=stp g s.1 (t % W) ((t % W+1+t/W) % W)
   (x.1,s.2++[x.2])
theorem Ts{g n W:Nat}(b:1<=g)(a:0<W){c:Crw×List Evt}(h:StI n W c.1 c.2):∀ t,StI n W (BP g W c t).1 (BP g W c t).2/\(BP g W c t).2.length<=c.2.length+t:=by
 intro t;induction t with
  |zero=>exact⟨h,Aax _⟩
  |succ t d=>unfold BP;simp only;split;grind;refine⟨(mc b d.1 (Acr _ a) (Acr _ a)).1,?_⟩;grind
theorem SY{g W:Nat}{c:Crw×List Evt}{t:Nat}(h:(BP g W c t).1.ov=true):∀ d,BP g W c (t+d)=BP g W c t:=by
 intro d;induction d with
  |zero=>rfl
  |succ d a=>rw[<- Ac9];show(let s:=BP g W c (t+d);if s.1.ov then s else _)=_;grind
theorem yv{g n W:Nat}(d:1<=g)(a:0<W){c:Crw×List Evt}(h:StI n W c.1 c.2)(r:Nat):∀ j,j<=W ->
  (∃ i,i<=j/\(BP g W c (r*W+i)).1.ov=true)\/pot g (BP g W c (r*W+j)).1.ts (BP g W c (r*W+j)).1.ds.flatten<pot g (BP g W c (r*W)).1.ts (BP g W c (r*W)).1.ds.flatten \/
  ((BP g W c (r*W+j)).1.ds=(BP g W c (r*W)).1.ds/\(BP g W c (r*W+j)).1.ts=(BP g W c (r*W)).1.ts/\∀ i,i<j->(BP g W c (r*W)).1.ds.getD i []=[]):=by
 intro j;induction j with
  |zero=>simp
  |succ j k=>
   intro l;by_cases e:(BP g W c (r*W+j)).1.ov=true;grind;have b:BP g W c (r*W+(j+1))=((stp g (BP g W c (r*W+j)).1 j ((j+1+r) % W)).1,(BP g W c (r*W+j)).2++[(stp g (BP g W c (r*W+j)).1 j ((j+1+r) % W)).2]):=by
    rw[<- Ac9];show(let s:=BP g W c (r*W+j);if s.1.ov then s else _)=_;simp only;rw[Aa2 e];have m:(r*W+j) % W=j:=by rw[Nat.add_comm,Nat.add_mul_mod_self_right];exact AcV (by omega)
    have o:(r*W+j)/W=r:=by rw[Nat.add_comm,Nat.add_mul_div_right _ _ a,Nat.div_eq_of_lt (by omega),Abo]
    grind
   have f:=mc (p:=j) (v:=(j+1+r) % W) d (Ts d a h (r*W+j)).1 (by omega) (Acr _ a);grind
theorem flatten_nil{l:List (List Nat)}(h:∀ i,i<l.length->l.getD i []=[]):l.flatten=[]:=by
 induction l with
  |nil=>rfl
  |cons a l c=>have b:=h 0 (by simp);simp at b;rw[Adh,b,AbW];refine c fun i hi => ?_;have:=h (i+1) (by grind);grind
theorem AGV{g n W:Nat}(d:1<=g)(e:0<W){c:Crw×List Evt}(h:StI n W c.1 c.2):(BP g W c ((pot g c.1.ts c.1.ds.flatten+1)*W)).1.ov=true:=by
 have f:∀ r,(BP g W c (r*W)).1.ov=true\/pot g (BP g W c (r*W)).1.ts (BP g W c (r*W)).1.ds.flatten+r<=pot g c.1.ts c.1.ds.flatten:=by
  intro r;induction r with
   |zero=>rw[Ack];exact .inr (Aax _)
   |succ r o=>
    rw[AcF,Ac4];rcases o with a|a;exact .inl (by rw[SY a];exact a);rcases yv d e h r W (Aax _)with⟨i,j,k⟩|j|⟨j,k,p⟩
    refine .inl ?_;have:=SY k (W-i);grind;omega;have m:=(Ts d e h (r*W)).1;have:=flatten_nil (l:=(BP g W c (r*W)).1.ds) (fun i hi=>p i (by rw[m.w]at hi;exact hi));have b:=m.ov;rw[this]at b;exact .inl (by rw[SY b];exact b)
 grind
theorem StI.done{n W:Nat}{c:Crw}{E:List Evt}(h:StI n W c E)(d:c.ov=true):(evU c.ts E).Perm (List.range n):=by obtain⟨D,a⟩:=h.iv;have b:=h.ov;rw[d]at b;have:=List.isEmpty_iff.1 b.symm;have e:=a.units;grind
abbrev TkI:=Int×Int×Int×Int×Unit
def NS:Option Nat->Int
 |none=>-1
 |some u=>(u:Int)
def BL(t:Tsk):TkI:=((t.lo:Int),(t.hi:Int),NS t.up,(t.wait:Int),())
abbrev Rv(g:Nat)(ts:List Tsk)(dn:List Bool):List TkI×Int×List Bool×Unit:=(ts.map BL,(g:Int),dn,())
structure Wok(g:Nat)(ts:List Tsk)(dn:List Bool):Prop where
 g1:1<=g
 g2:g<=100
 n1:1<=dn.length
 n2:dn.length<=1000
 t1:1<=ts.length
 t2:ts.length<=2000
 ok:∀ (i:Nat) (t:Tsk),ts[i]? = some t->t.lo<t.hi/\t.hi<=dn.length/\t.wait<=2/\∀ x,t.up=some x->x<i
theorem Rz(a b:Int):L6 (a,b,())=some (decide (1<=a/\a<=1000/\1<=b/\b<=100),()):=by rw[Tg,O7,BR,BR,BR,BR];grind
theorem ARc{u:Option Nat}{i:Nat}(h:∀ x,u=some x->x<i):-1<=NS u/\NS u<(i:Int):=by
 cases u with
  |none=>simp only[NS];omega
  |some x=>have:=h x rfl;simp only[NS];omega
theorem IB{ts:List Tsk}{i:Nat}{t:Tsk}(h:ts[i]? = some t):(ts.map BL)[i]? = some (BL t):=by grind
theorem YU{g:Nat}{ts:List Tsk}{a:List Bool}(h:Wok g ts a):Tc (Rv g ts a,())=some (true,()):=by
 have:=h.g1;have:=h.g2;have:=h.n1;have:=h.n2;have:=h.t1;have:=h.t2;rw[bg,W2];simp only[A7,AbN,Rz];rw[Aar (show 1<=(a.length:Int)/\(a.length:Int)<=1000/\1<=(g:Int)/\(g:Int)<=100 by omega)];simp only[Aav];rw[BI,Aaq (show ¬ (ts.length:Int)=0 by omega),BF,Aaq (show ¬ (2000:Int)<(ts.length:Int) by omega)]
 have e:=HK (step:=NX) (fun i=>(ts.map BL,(g:Int),a,ts.map BL,(ts.length:Int),(i:Int),())) (ts.map BL) (fun _=>false) (fun _=>.inl (false,())) (.inr (.inl ())) (by grind)
  (fun i x hi c=>by
   rw[AbN]at hi
   have b:ts[i]? = some ts[i]:=Aaz hi
   generalize ts[i]=t at b
   rw[IB b]at c
   cases c
   obtain⟨f,j,k,d⟩:=h.ok i t b
   have l:=ARc d
   rw[NX,A3,Aar hi]
   simp only[BA (IB b),BL,A7,BF,BR]
   rw[Aaq (show ¬ (t.lo:Int)<0 by omega),Aaq (show ¬ (t.hi:Int)<=(t.lo:Int) by omega),Aaq (show ¬ (a.length:Int)<(t.hi:Int) by omega),Aaq (show ¬ NS t.up < -1 by omega),
    Aaq (show ¬ (i:Int)<=NS t.up by omega),Aaq (show ¬ (t.wait:Int)<0 by omega),Aaq (show ¬ (2:Int)<(t.wait:Int) by omega),A6 (by omega)]
   simp)
  (by rw[NX,AbN,A3,Aaq (by omega)])
 grind
theorem O6{g:Nat}{ts:List Tsk}{a:List Bool}(h:Wok g ts a){i:Nat}(hi:i<ts.length):QV (Rv g ts a,(i:Int),())=some (0,()):=by rw[bc,W1];simp only[YU h,A7,AbN,Aav];rw[BF,Aaq (by omega),EN,Aaq (by omega)]
theorem O5{t:Tsk}(h:t.lo<=t.hi)(a:t.hi<=1000):NW (BL t,())=some (((t.hi-t.lo:Nat):Int),()):=by rw[ba,W0];simp only[BL];rw[Es (by omega)]
theorem YV{g:Nat}{ts:List Tsk}{b:List Bool}(h:Wok g ts b){i:Nat}{t:Tsk}(a:ts[i]? = some t):Td (Rv g ts b,(i:Int),())=some (decide (g<t.hi-t.lo),()):=by
 have d:=h.ok i t a;have:=h.n2;rw[bj,W3];have c:ieq (0:Int) 0=true:=by rw[BI];rfl
 simp only[O6 h (AbC.1 a).1,c,BA (IB a)];have:=O5 (t:=t) (by omega) (by omega);rw[show((BL t).1,(BL t).2.1,(BL t).2.2.1,(BL t).2.2.2.1,())=BL t from rfl,this];simp only[A3]
theorem AE3{ts:List Tsk}{i:Nat}{t:Tsk}:(ts.map BL).set i (BL t)=(ts.set i t).map BL:=by simp
theorem yS{g:Nat}{ts:List Tsk}{b:List Bool}(h:Wok g ts b){i:Nat}{t:Tsk}(c:ts[i]? = some t)(l:g<t.hi-t.lo)(d:t.wait=0)(m:ts.length+2<=2000):
  mX (Rv g ts b,(i:Int),())=some ((ts.set i { t with wait:=2 }++([⟨t.lo,B6 t,some i,0⟩,⟨B6 t,t.hi,some i,0⟩]:List Tsk)).map BL,(g:Int),b,(ts.length:Int),((ts.length+1:Nat):Int),0,()):=by
 have n:=h.ok i t c;have:=h.n2;have hi:=(AbC.1 c).1;rw[jM,bh];have e:ieq (0:Int) 0=true:=by rw[BI];rfl
 have f:=O5 (t:=t) (by omega) (by omega);simp only[O6 h hi,e,BA (IB c),Aav];rw[show((BL t).1,(BL t).2.1,(BL t).2.2.1,(BL t).2.2.2.1,())=BL t from rfl,f];simp only[EN,Aaq (show ¬ t.hi-t.lo<=g by omega)];have j:(BL t).2.2.2.1=0:=by simp[BL,d]
 rw[j,BF,Aaq (show ¬ (0:Int)<0 by omega)];simp only[A7,AbN];rw[show(ts.length:Int)+2=((ts.length+2:Nat):Int) by omega,BM (by omega),BF,Aaq (by omega)];simp only[AXD (show t.hi-t.lo<9223372036854775808 by omega),Kv (show(ts.map BL).length<=4294967296 by grind),AbN,Aa1,Aa8];rw[CM (by omega)];have k:w64 ((BL t).1+((t.hi-t.lo)/2:Nat))=(B6 t:Int):=by show w64 ((t.lo:Int)+_)=_;rw[wrap_add (by omega)];rfl
 simp only[k,ES];have a:(ts.map BL++[((BL t).1,((B6 t:Nat):Int),(i:Int),(0:Int),()),(((B6 t:Nat):Int),(BL t).2.1,(i:Int),(0:Int),())])[i]? = some (BL t):=by grind
 simp only[BA a,CQ a];rw[D8,List.set_append_left _ _ (by grind)];rw[A6 (by omega),Abm,<- AE3];rfl
theorem AP3:∀ (k:Nat) (ts:List Tsk) (u:Option Nat) (n:Nat),(∀ (i:Nat) (t:Tsk),ts[i]? = some t->t.wait<=2/\∀ x,t.up=some x->x<i)->(∀ x,u=some x->x<k/\x<ts.length)->ts.length<1000000->k<n ->
  BK IV n (ts.map BL,NS u,())=some (if(fin k ts u).2=true then Sum.inr (Sum.inl ((fin k ts u).1.map BL,()))else Sum.inl ((fin k ts u).1.map BL,false,())):=by
 have a:∀ (ts:List Tsk) (n:Nat),0<n->BK IV n (ts.map BL,NS none,())=some (Sum.inr (Sum.inl (ts.map BL,()))):=by
  intro ts n e;obtain⟨n,rfl⟩:∃ m,n=m+1:=⟨n-1,by omega⟩
  rw[BK,IV];unfold NS;rw[BI,Aar rfl];rfl
 intro k;induction k with
  |zero=>
   intro ts u n g h o e;cases u with
    |none=>rw[a ts n e];rfl
    |some x=>grind
  |succ k p=>
   intro ts u n g h o e;cases u with
    |none=>rw[a ts n (by omega)];rfl
    |some x=>
     obtain⟨B,q⟩:=h x rfl;obtain⟨n,rfl⟩:∃ m,n=m+1:=⟨n-1,by omega⟩
     have b:ts[x]? = some (ts[x]):=Aaz q;generalize ts[x]=t at b;have r:=g x t b;rw[BK,IV];have v:ieq (NS (some x)) (-1:Int)=false:=by rw[BI];exact Aaq (by simp only[NS];omega)
     have w:NS (some x)=(x:Int):=rfl;simp only[v];simp only[AbF,w,BA (IB b),CQ (IB b)];have d:Bl (ts.map BL) (A4 (x:Int)) ((BL t).1,(BL t).2.1,(BL t).2.2.1,w64 ((BL t).2.2.2.1-1),())=if t.wait=0 then Bl (ts.map BL) (A4 (x:Int)) ((BL t).1,(BL t).2.1,(BL t).2.2.1,w64 ((BL t).2.2.2.1-1),())else(ts.set x { t with wait:=t.wait-1 }).map BL:=by by_cases c:t.wait=0;grind;rw[Aa2 c,D8,<- AE3];congr 1;show((BL t).1,(BL t).2.1,(BL t).2.2.1,w64 ((t.wait:Int)-1),())=_;rw[B9 (by omega)];rfl
     unfold fin;rw[b];by_cases c:t.wait=0;have j:ieq (BL t).2.2.2.1 (0:Int)=true:=by rw[BI];exact Aar (by simp[BL,c])
     grind
     ·have j:ieq (BL t).2.2.2.1 (0:Int)=false:=by rw[BI];exact Aaq (by simp[BL,c])
      rw[Aa2 c]at d;simp only[j,d];have z:((ts.set x { t with wait:=t.wait-1 }).map BL)[x]? = some (BL { t with wait:=t.wait-1 }):=IB (cF b);simp only[CQ z];by_cases f:0<t.wait-1;have l:ilt (0:Int) (BL { t with wait:=t.wait-1 }).2.2.2.1=true:=by rw[BF];exact Aar (by simp only[BL];omega)
      grind
      ·have l:ilt (0:Int) (BL { t with wait:=t.wait-1 }).2.2.2.1=false:=by rw[BF];exact Aaq (by simp only[BL];omega)
       simp only[l,c,f,AbE];have A:(BL { t with wait:=t.wait-1 }).2.2.1=NS t.up:=rfl;rw[A];exact p (ts.set x { t with wait:=t.wait-1 }) t.up n (fun i s d=>by
        rcases VD d with⟨rfl,rfl,_⟩|⟨_,d⟩
        all_goals grind) (fun y C=>by
        grind) (by grind) (by omega)
theorem mY{ts:List Tsk}{u:Option Nat}(c:∀ (i:Nat) (t:Tsk),ts[i]? = some t->t.wait<=2/\∀ x,t.up=some x->x<i)(a:∀ x,u=some x->x<ts.length)(d:ts.length<1000000):
  Te (ts.map BL,NS u,())=some ((fin ts.length ts u).1.map BL,(fin ts.length ts u).2,()):=by
 rw[YW,SR];have f:ts.length<many:=by simp only[many];omega
 have e:=AP3 ts.length ts u many c (fun x b=>⟨a x b,a x b⟩) d f;rw[Bo,e];grind
theorem ABw(c:Nat):∀ (k:Nat) (b:List Bool),(List.range k).foldl (fun a j=>a.set (c+j) true) b=R5 b c k:=by
 intro k;induction k with
  |zero=>intro b;rfl
  |succ k d=>intro b;rw[AbJ,AcB,d];rfl
theorem ALg{g:Nat}{ts:List Tsk}{b:List Bool}(h:Wok g ts b){i:Nat}{t:Tsk}(d:ts[i]? = some t)(m:¬ g<t.hi-t.lo)(o:t.wait=0)(hd:b[t.lo]? = some false):
  ARt (Rv g ts b,(i:Int),())=some ((fin ts.length ts t.up).1.map BL,(g:Int),R5 b t.lo (t.hi-t.lo),(fin ts.length ts t.up).2,0,()):=by
 have A:=h.ok i t d;have:=h.n2;have:=h.t2;have hi:=(AbC.1 d).1;rw[ADV,yW];have p:ieq (0:Int) 0=true:=by rw[BI];rfl
 have q:=O5 (t:=t) (by omega) (by omega);simp only[O6 h hi,p,BA (IB d),Aav];rw[show((BL t).1,(BL t).2.1,(BL t).2.2.1,(BL t).2.2.2.1,())=BL t from rfl,q];simp only[A3,Aaq m];have u:(BL t).2.2.2.1=0:=by simp[BL,o]
 have v:(BL t).1=(t.lo:Int):=rfl;have w:(BL t).2.1=(t.hi:Int):=rfl;have y:(BL t).2.2.1=NS t.up:=rfl;rw[u,BF,Aaq (show ¬ (0:Int)<0 by omega)];simp only[v,w,y,BA hd,Kv (show(ts.map BL).length<=4294967296 by grind),Kv (show b.length<=4294967296 by omega)]
 have e:=EC (step:=Tf) (fun j (a:List Bool)=>(ts.map BL,(g:Int),a,(0:Int),(t.lo:Int),(t.hi:Int),NS t.up,(0:Int),((t.lo+j:Nat):Int),())) (List.range (t.hi-t.lo)) (fun(j:Nat) a=>.inl (a.set (t.lo+j) true))
  (fun a=>.inl (ts.map BL,(g:Int),a,(0:Int),(t.lo:Int),(t.hi:Int),NS t.up,(0:Int),())) (fun _ a=>a.length=b.length) (by grind)
  (fun j x a k c B=>by
   rw[Aa9]at k
   rw[List.getElem?_range k]at c
   cases c
   refine⟨fun C f => ?_,fun r f=>by cases f⟩
   cases f
   refine⟨?_,by grind⟩
   rw[Tf,A3,Aar (show t.lo+j<t.hi by omega)]
   obtain⟨x,c⟩:=AYp (xs:=a) (n:=t.lo+j) (by omega)
   simp only[c,D8]
   rw[A6 (by omega)]
   rfl)
  (fun a _=>by
   rw[Aa9,Tf,A3,Aaq (by omega)]) b rfl
 have z:A' Tf many (ts.map BL,(g:Int),b,(0:Int),(t.lo:Int),(t.hi:Int),NS t.up,(0:Int),(t.lo:Int),())=_:=e;rw[z,CV,ABw];simp only;rw[mY (fun i s l=>⟨(h.ok i s l).2.2.1,(h.ok i s l).2.2.2⟩) (fun x c=>by grind) (by omega)]
abbrev CrI:=(List TkI×Int×List Bool×Unit)×List (List Int)×Bool×Int×Int×Unit
abbrev EvI:=Int×Int×Int×Bool×Unit
def nI(l:List Nat):List Int:=l.map fun n:Nat=>(n:Int)
def CX(ds:List (List Nat)):List (List Int):=ds.map nI
def TB(g:Nat)(c:Crw):CrI:=(Rv g c.ts c.dn,CX c.ds,c.ov,(c.st:Int),(c.idl:Int),())
def Dx(e:Evt):EvI:=((e.w:Int),(match e.ft with|some q=>(q.1:Int)|none=>-1),(match e.ft with|some q=>(q.2:Int)|none=>-1),e.pt,())
theorem E0{l:List Nat}{i:Nat}{x:Nat}(h:l[i]? = some x):(nI l)[i]? = some (x:Int):=by unfold nI;grind
theorem Ck(l:List Nat):(nI l).length=l.length:=by unfold nI;simp
theorem Mw(ds:List (List Nat)):(CX ds).length=ds.length:=by unfold CX;simp
theorem Im{ds:List (List Nat)}{i:Nat}{l:List Nat}(h:ds[i]? = some l):(CX ds)[i]? = some (nI l):=by unfold CX;grind
theorem eb(ds:List (List Nat))(i:Nat)(l:List Nat):(CX ds).set i (nI l)=CX (ds.set i l):=by unfold CX;simp
structure Cok(g W:Nat)(c:Crw):Prop where
 wok:Wok g c.ts c.dn
 w1:1<=W
 w2:W<=8
 w:c.ds.length=W
 st:c.st<100000
 idl:c.idl<100000
 nod:c.ds.flatten.Nodup
 act:∀ a∈c.ds.flatten,∃ t:Tsk,c.ts[a]? = some t/\t.wait=0/\c.dn[t.lo]? = some false
 few:c.ts.length+2<=2000\/∀ a∈c.ds.flatten,∀ t:Tsk,c.ts[a]? = some t->¬ g<t.hi-t.lo
 short:c.ds.flatten.length<=1000
theorem ACr{g W:Nat}{c:Crw}(h:Cok g W c){a:Nat}(d:a∈c.ds.flatten):qK (Rv g c.ts c.dn,(a:Int),())=some (true,()):=by
 obtain⟨t,b,e,hd⟩:=h.act a d;have f:=(AbC.1 b).1;rw[lE,fT];simp only[BR,Aar (show(0:Int)<=(a:Int) by omega),A7,AbN,A3,Aar f,BA (IB b)];have i:ieq (BL t).2.2.2.1 (0:Int)=true:=by rw[BI];exact Aar (by simp[BL,e])
 simp only[i,YV h.wok b];have j:(BL t).1=(t.lo:Int):=rfl;by_cases k:g<t.hi-t.lo;grind;simp only[Aaq k,j,BA hd,AbF]
theorem qP(n:Nat):QG ((n:Int),())=some (decide (n<=100000),()):=by rw[ZC,TG,BR,Aar (by omega),BR];by_cases h:n<=100000;all_goals grind
def M1(l:List Nat):List (Int×Int):=l.map fun n:Nat=>((n:Int),(1:Int))
theorem xN{l:List Nat}{x:Nat}(h:x∉l):BH (M1 l) (x:Int) (1:Int)=M1 (l++[x])/\A_ (M1 l) (x:Int)=none:=by
 induction l with
  |nil=>exact⟨rfl,rfl⟩
  |cons y l b=>
   rw[AbD,not_or]at h;obtain⟨c,d⟩:=b h.2;have a:¬ (y:Int)=(x:Int):=by omega
   constructor;show(if(y:Int)=(x:Int)then _ else _)=_;rw[Aa2 a];show _::BH (M1 l) (x:Int) 1=_;rw[c];rfl;show(if(y:Int)=(x:Int)then _ else _)=_;rw[Aa2 a];exact d
theorem N5{ds:List (List Nat)}{i:Nat}{l:List Nat}(h:ds[i]? = some l):ds.flatten=(ds.take i).flatten++(l++(ds.drop (i+1)).flatten)/\(ds.take (i+1)).flatten=(ds.take i).flatten++l:=by
 obtain⟨a,rfl⟩:=AbC.1 h;constructor
 ·conv=>lhs;rw[<- Abv i ds,Abl a]
  grind
 rw[Adk,Aaz a,AdS];simp
theorem ACY{g W:Nat}{c:Crw}(h:Cok g W c):pg (TB g c,())=some (true,()):=by
 have:=h.w1;have:=h.w2;have:=h.w;have:=h.st;have:=h.idl;have:=h.short;rw[k7,fI];simp only[TB,YU h.wok,Aav,A7,Mw];rw[BI,Aaq (show ¬ (c.ds.length:Int)=0 by omega),BF,Aaq (show ¬ (8:Int)<(c.ds.length:Int) by omega)];simp only[qP,Aar (show c.st<=100000 by omega),Aar (show c.idl<=100000 by omega),Aav]
 have a:∀ (i:Nat) (l:List Nat) (b:Int),c.ds[i]? = some l->A' M3 many (c.ts.map BL,(g:Int),c.dn,CX c.ds,c.ov,(c.st:Int),(c.idl:Int),M1 (c.ds.take i).flatten,CX c.ds,b,(i:Int),nI l,(l.length:Int),(0:Int),()) =
   some (.inr (.inl (c.ts.map BL,(g:Int),c.dn,CX c.ds,c.ov,(c.st:Int),(c.idl:Int),M1 (c.ds.take (i+1)).flatten,CX c.ds,b,(i:Int),()))):=by
  intro i l b f
  obtain⟨z,q⟩:=N5 f
  have r:l.length<=1000:=by
   grind
  have e:=HK (step:=M3) (fun j=>(c.ts.map BL,(g:Int),c.dn,CX c.ds,c.ov,(c.st:Int),(c.idl:Int),M1 ((c.ds.take i).flatten++l.take j),CX c.ds,b,(i:Int),nI l,(l.length:Int),(j:Int),())) l (fun _=>false)
   (fun _=>.inl (false,())) (.inr (.inl (c.ts.map BL,(g:Int),c.dn,CX c.ds,c.ov,(c.st:Int),(c.idl:Int),M1 (c.ds.take (i+1)).flatten,CX c.ds,b,(i:Int),()))) (by omega)
   (fun j x s k=>by
    rw[M3,A3,Aar s]
    have t:=h.nod
    have u:l=l.take j++x::l.drop (j+1):=by
     obtain⟨v,rfl⟩:=AbC.1 k
     simp
    have d:x∉(c.ds.take i).flatten++l.take j:=by
     grind
    have m:x∈c.ds.flatten:=by grind
    obtain⟨p,y⟩:=xN d
    have n:w64 (((A_ (M1 ((c.ds.take i).flatten++l.take j)) (x:Int)).getD (0:Int))+(1:Int))=1:=by
     rw[y];exact BM (by decide)
    simp only[BA (E0 k),n,p]
    have o:A_ (M1 ((c.ds.take i).flatten++l.take j++[x])) (x:Int)=some 1:=by
     rw[<- p,FM,Aa5 rfl]
    rw[o,BF]
    simp only[Abg,Aaq (show ¬ (1:Int)<1 by omega)]
    have:=ACr h m
    simp only[Rv]at this
    simp only[this,Aav]
    rw[A6 (by omega),AcC]
    have:l.take (j+1)=l.take j++[x]:=by rw[Adk,k];rfl
    grind)
   (by
    rw[M3,A3,Aaq (by omega),AbM,q])
  grind
 have e:=HK (step:=M4) (fun i=>(c.ts.map BL,(g:Int),c.dn,CX c.ds,c.ov,(c.st:Int),(c.idl:Int),M1 (c.ds.take i).flatten,CX c.ds,(c.ds.length:Int),(i:Int),())) c.ds (fun _=>false) (fun _=>.inl (false,())) (.inr (.inl ())) (by omega)
  (fun i l hi f=>by
   rw[M4,A3,Aar hi]
   simp only[BA (Im f),A7,Ck]
   simp only[a i l _ f]
   rw[A6 (by omega)]
   simp)
  (by rw[M4,A3,Aaq (by omega)])
 have A:A' M4 many (c.ts.map BL,(g:Int),c.dn,CX c.ds,c.ov,(c.st:Int),(c.idl:Int),([]:List (Int×Int)),CX c.ds,(c.ds.length:Int),(0:Int),())=_:=e;grind
def CS(W:Nat)(x:Int):Nat:=((x.tmod W+W).tmod W).toNat
theorem Qm{W:Nat}(a:1<=W)(x:Int):CS W x<W:=by unfold CS;have b:=Int.tmod_lt_of_pos (x.tmod W+W) (show(0:Int)<W by omega);omega
theorem AS2{a:Int}{W:Nat}(b:1<=W):rem? a (W:Int)=some (a.tmod W):=by rw[cg,zS,Aa2 (by omega)]
theorem wS{ds:List (List Nat)}{W:Nat}(k:1<=W)(l:W<=8)(hd:ds.length=W)(b:List TkI)(c:Int)(d:List Bool)(e:Bool)(f g h i j:Int)(a:Bool)(x:Int):
  VY (b,c,d,CX ds,e,f,g,h,i,j,a,x,())=some (b,c,d,CX ds,e,f,g,h,i,j,a,(CS W x:Int),()):=by
 rw[fO,X_];simp only[A7,Mw,hd,AS2 k];have m:=Int.tmod_lt_of_pos x (show(0:Int)<W by omega);have n:-(W:Int)<x.tmod W:=by have:=Int.tmod_lt_of_pos (-x) (show(0:Int)<W by omega);rw[Int.neg_tmod]at this;omega
 rw[BM (by omega)];have o:0<=(x.tmod W+W).tmod W:=Int.tmod_nonneg _ (by omega);unfold CS;grind
theorem ATv(l:List Nat)(k:Nat):(nI l).take k=nI (l.take k):=by unfold nI;simp
theorem ACs{ds:List (List Nat)}{p v:Nat}(A:p<ds.length)(B:v<ds.length)(C:ds.flatten.length<=1000)(d:List TkI)(e:Int)(g:List Bool)(h:Bool)(j k m s u:Int)(b:Bool):
  qO (d,e,g,CX ds,h,j,k,m,s,u,b,(p:Int),(v:Int),())=match found ds p v with
   |some (t,f,ds')=>some (d,e,g,CX ds',h,j,k,m,(f:Int),(t:Int),b,true,())
   |none=>some (d,e,g,CX ds,h,j,k,m,s,u,b,false,()):=by
 have n:ds[p]? = some (ds.getD p []):=by grind
 have o:ds[v]? = some (ds.getD v []):=by grind
 have a:∀ {i:Nat} {l:List Nat},ds[i]? = some l->l.length<=1000:=by intro i l x;have:=Abx List.length (N5 x).1;grind
 have D:=a n;have E:=a o;unfold found;generalize ds.getD p []=lp at *;generalize ds.getD v []=lv at *;rw[lG,fU];simp only[BA (Im n),BA (Im o),CQ (Im n),CQ (Im o),A7,Ck];rw[BM (by omega),BR];cases w:lp.getLast? with
  |some t=>
   obtain⟨ys,rfl⟩:=AdW.1 w;rw[Aa3,AcT]at *;have y:(((ys.length+1:Nat):Int)-1)=(ys.length:Int):=by omega
   rw[y,Aar (by omega)];have q:(nI (ys++[t]))[ys.length]? = some (t:Int):=E0 (by simp);have c:ieq (ys.length:Int) (ys.length:Int)=true:=by rw[BI];simp
   simp only[BA q,c,bp (show ys.length<=(nI (ys++[t])).length by grind),ATv,List.take_left,D8,eb,List.dropLast_concat]
  |none=>
   have:lp=[]:=List.getLast?_eq_none_iff.1 w;subst this;rw[Aaq (by simp)];cases lv with
    |nil=>rw[BF,Aaq (by simp)]
    |cons t r=>
     rw[BF,Aar (by simp)];have q:idx (nI (t::r)) (0:Int)=some (t:Int):=by rw[Ke];rfl
     have c:=Ti (xs:=nI (t::r)) (l:=1) (by rw[Ck];simp);rw[A7,Ck]at c;have z:EX (nI (t::r)) (1:Int) (((t::r).length:Nat):Int)=some (nI r):=c;simp only[q,z,D8,eb]
theorem AVT{g W:Nat}{c:Crw}(h:Cok g W c){t f p:Nat}{ds':List (List Nat)}(v:p<ds'.length)(x:ds'.flatten.length<=1000){k:Tsk}(j:c.ts[t]? = some k)(o:k.wait=0)(hd:c.dn[k.lo]? = some false)
  (d:g<k.hi-k.lo->c.ts.length+2<=2000) (l:Bool) (st a w m:Int) :
  cgo (c.ts.map BL,(g:Int),c.dn,CX ds',l,st,a,w,m,(t:Int),false,(p:Int),()) =
   if g<k.hi-k.lo then some ((c.ts.set t { k with wait:=2 }++([⟨k.lo,B6 k,some t,0⟩,⟨B6 k,k.hi,some t,0⟩]:List Tsk)).map BL,(g:Int),c.dn,CX (ds'.set p (ds'.getD p []++[c.ts.length+1,c.ts.length])),l,st,a,w,m,(t:Int),true,0,())
   else some ((fin c.ts.length c.ts k.up).1.map BL,(g:Int),R5 c.dn k.lo (k.hi-k.lo),CX ds',l||(fin c.ts.length c.ts k.up).2,st,a,w,m,(t:Int),false,0,()):=by
 have n:ds'[p]? = some (ds'.getD p []):=by grind
 have y:(ds'.getD p []).length<=1000:=by have:=Abx List.length (N5 n).1;grind
 rw[AQe,AQf];have e:=YV h.wok j;simp only[Rv]at e;simp only[e];have q:ieq (0:Int) 0=true:=by rw[BI];rfl
 by_cases b:g<k.hi-k.lo;rw[Aa5 b];have i:=yS h.wok j b o (d b);simp only[Rv]at i;have r:ieq (((ds'.getD p []).length:Nat):Int) (((ds'.getD p []).length:Nat):Int)=true:=by rw[BI];simp
 have s:EX (nI (ds'.getD p [])) (0:Int) (((ds'.getD p []).length:Nat):Int)=some (nI (ds'.getD p [])):=by have:=bp (xs:=nI (ds'.getD p [])) (h:=(nI (ds'.getD p [])).length) (Aax _);rw[AbM,Ck]at this;omega
 simp only[Aar b,i,q,BA (Im n),CQ (Im n),A7,Ck,r,s,Aa1,Aa8];rw[CM (by omega)];simp only[ES,D8];have:nI (ds'.getD p [])++[((c.ts.length+1:Nat):Int),(c.ts.length:Int)]=nI (ds'.getD p []++[c.ts.length+1,c.ts.length]):=by unfold nI;simp
 rw[this,eb];rw[Aa2 b];have u:=ALg h.wok j b o hd;grind
theorem AJ8{g W:Nat}{c:Crw}(h:Cok g W c)(x y:Int):
  AFB (TB g c,x,y,())=some ((stp g c (CS W x) (CS W y)).1.ts.map BL,(g:Int),(stp g c (CS W x) (CS W y)).1.dn,CX (stp g c (CS W x) (CS W y)).1.ds,(stp g c (CS W x) (CS W y)).1.ov,((stp g c (CS W x) (CS W y)).1.st:Int),((stp g c (CS W x) (CS W y)).1.idl:Int),
   Dx (stp g c (CS W x) (CS W y)).2,0,()):=by
 have r:=Qm h.w1 x;have s:=Qm h.w1 y;have:=h.st;have:=h.idl;have:=h.w;have:=h.short;have:=h.w2;have u:c.ds.length<=8:=by omega
 rw[wI,pe];have l:=ACY h;simp only[TB,Rv]at l;simp only[TB,Rv,l,Aav];rw[BI,Aaq (show ¬ (c.st:Int)=100000 by omega)];simp only[Kv (show(CX c.ds).length<=4294967296 by rw[Mw];omega),wS h.w1 h.w2 h.w];rw[A6 (by omega)];have z:=fun A B C D E F G H I b=>ACs (ds:=c.ds) (p:=CS W x) (v:=CS W y) (by omega) (by omega) h.short A B C D E F G H I b;simp only[z];cases a:found c.ds (CS W x) (CS W y)with
  |none=>unfold stp;simp only[a];rw[BI,Aaq (show ¬ (c.idl:Int)=100000 by omega),A6 (by omega)];rfl
  |some q=>
   obtain⟨t,f,ds'⟩:=q;obtain⟨m,L,M⟩:=eT (by omega) (by omega) a;have d:t∈c.ds.flatten:=m.mem_iff.2 (by simp);obtain⟨k,n,J,hd⟩:=h.act t d;have e:ds'.flatten.length<=1000:=by have:=m.length_eq;grind
   have i:=AVT h (t:=t) (f:=f) (p:=CS W x) (ds':=ds') (by omega) e n J hd (fun j=>by rcases h.few with K|K;all_goals grind)
   simp only[i];have o:ieq (0:Int) 0=true:=by rw[BI];rfl
   unfold stp;simp only[a,n];by_cases j:g<k.hi-k.lo;simp only[Aa5 j,o,Aav];rfl;simp only[Aa2 j,o,Aav];rfl
theorem Gc{σ ρ:Type}{step:σ->Option (σ⊕ρ)}(st:Nat->σ)(N:Nat)(r:ρ)(a:N<9223372036854775808)(h:∀ i,i<N->step (st i)=some (.inl (st (i+1))))(b:step (st N)=some (.inr r)):A' step many (st 0)=some r:=by
 have:=HK (step:=step) st (List.range N) (fun _=>false) (fun _=>r) r (by grind) (fun i x hi _=>by grind) (by grind)
 grind
section
variable {g n W:Nat} {c:Crw} {E:List Evt}
theorem StI.cok(h:StI n W c E)(p:1<=g)(j:g<=100)(k:1<=n)(l:n<=1000)(q:1<=W)(m:W<=8)(G:E.length<100000):Cok g W c:=by
 obtain⟨D,b⟩:=h.iv;have H:=b.bound;have I:=b.size;have r:=h.st;have o:=h.idl;refine⟨⟨p,j,by rw[b.len];exact k,by rw[b.len];exact l,by omega,by omega,fun i t d => ?_⟩,q,m,h.w,by omega,by omega,b.tr.nod,fun a f => ?_,?_,by omega⟩;obtain⟨s,u,v,_,x⟩:=b.tr.tree i t d;exact⟨s,by rw[b.len];exact u,v,x⟩;obtain⟨t,d,y⟩:=b.tr.act a f;exact⟨t,d,y,b.AXa f d⟩;by_cases z:∃ a∈c.ds.flatten,∃ t:Tsk,c.ts[a]? = some t/\g<t.hi-t.lo;obtain⟨a,f,t,d,A⟩:=z;left;obtain⟨B,C,e⟩:=AdC f;have F:c.ds.flatten.Perm (a::(B++C)):=by grind
 have:=(b.perm F).AZK d (B6:=t.lo+1) (by omega) (by omega);omega;grind
theorem AKS(h:Cok g W c):AFD (TB g c,())=some ((c.ds.flatten.length:Int),()):=by
 have:=h.w;have:=h.w2;have:=h.short;rw[wj,qL]
 have e:=Gc (step:=QE) (fun i=>(((c.ds.take i).flatten.length:Int),CX c.ds,(c.ds.length:Int),(i:Int),())) c.ds.length (.inl ((c.ds.flatten.length:Int),())) (by omega)
  (fun i hi=>by
   rw[QE,A3,Aar hi]
   have b:=Aaz hi
   obtain⟨d,f⟩:=N5 b
   have a:=Abx List.length d
   simp only[Aa3]at a
   simp only[BA (Im b),A7,Ck]
   rw[wrap_add (by omega),A6 (by omega),f,Aa3])
  (by rw[QE,A3,Aaq (by omega),AbM])
 have j:A' QE many ((0:Int),CX c.ds,(c.ds.length:Int),(0:Int),())=_:=e;simp only[TB,A7,Mw,j]
theorem kv(h:Cok g W c)(d:E.length<100000)(x y:Int):
  v5 (c.ts.map BL,(g:Int),c.dn,CX c.ds,c.ov,(c.st:Int),(c.idl:Int),E.map Dx,x,y,()) =
   some ((stp g c (CS W x) (CS W y)).1.ts.map BL,(g:Int),(stp g c (CS W x) (CS W y)).1.dn,CX (stp g c (CS W x) (CS W y)).1.ds,(stp g c (CS W x) (CS W y)).1.ov,((stp g c (CS W x) (CS W y)).1.st:Int),((stp g c (CS W x) (CS W y)).1.idl:Int),
    (E++[(stp g c (CS W x) (CS W y)).2]).map Dx,0,()):=by
 rw[vz,pR];have a:=AJ8 h x y;simp only[TB,Rv]at a;simp only[a];have b:ieq (0:Int) 0=true:=by rw[BI];rfl
 simp only[b,A7,AbN,Aa1,Aa8];rw[CM (by omega)];simp only[ES,Abm];rfl
end
theorem AIB{W p:Nat}(h:p<W):CS W (p:Int)=p:=by
 unfold CS;have a:((p:Nat):Int).tmod (W:Int)=p:=Int.tmod_eq_of_lt (by omega) (by omega);rw[a];have b:((p:Int)+W).tmod W=p:=by rw[show(p:Int)+W=((p+W:Nat):Int) by omega,<- Int.ofNat_tmod];rw[Nat.add_mod_right,AcV h]
 omega
theorem AOX{W p:Nat}(a:1<=W):CS W (p:Int)=p % W:=by unfold CS;rw[<- Int.ofNat_tmod];have:=Acr p (show 0<W by omega);rw[show((p % W:Nat):Int)+W=((p % W+W:Nat):Int) by omega,<- Int.ofNat_tmod,Nat.add_mod_right,Nat.mod_mod];rfl
section
variable {g n W:Nat} {s:Crw×List Evt}
theorem AGU{t:Nat}(h:(BP g W s t).1.ov=false):BP g W s (t+1)=((stp g (BP g W s t).1 (t % W) ((t % W+1+t/W) % W)).1,(BP g W s t).2++[(stp g (BP g W s t).1 (t % W) ((t % W+1+t/W) % W)).2]):=by rw[BP];grind
theorem yu(c:1<=g)(d:0<W)(h:StI n W s.1 s.2):∃ T,T<=(pot g s.1.ts s.1.ds.flatten+1)*W/\(BP g W s T).1.ov=true/\∀ t,t<T->(BP g W s t).1.ov=false:=by
 have e:=AGV c d h;generalize f:(pot g s.1.ts s.1.ds.flatten+1)*W=b at e |-;clear f;have a:∀ k,k<=b->(∃ T,T<=b/\(BP g W s T).1.ov=true/\∀ t,t<T->(BP g W s t).1.ov=false)\/∀ t,t<k->(BP g W s t).1.ov=false:=by
  intro k;induction k with
   |zero=>simp
   |succ k i=>grind
 grind
theorem ACI(y:1<=g)(z:g<=100)(A:1<=n)(B:n<=1000)(M:1<=W)(m:W<=8)(h:StI n W s.1 s.2)(C:s.2.length<=4000){T:Nat}(R:T<=(2*n+1)*W)(D:(BP g W s T).1.ov=true)(o:∀ t,t<T->(BP g W s t).1.ov=false):
  StI n W (BP g W s T).1 (BP g W s T).2/\(BP g W s T).2.length<=40000/\aQ (s.1.ts.map BL,(g:Int),s.1.dn,CX s.1.ds,s.1.ov,(s.1.st:Int),(s.1.idl:Int),s.2.map Dx,())=some ((BP g W s T).1.ts.map BL,(g:Int),(BP g W s T).1.dn,CX (BP g W s T).1.ds,(BP g W s T).1.ov,((BP g W s T).1.st:Int),((BP g W s T).1.idl:Int),(BP g W s T).2.map Dx,0,()):=by
 have N:T<=17000:=by
  have:(2*n+1)*W<=2001*8:=Aca (by omega) m
  omega
 obtain⟨O,P⟩:=Ts y (by omega) h T
 refine⟨O,by omega,?_⟩
 have f:∀ t,t<=T->StI n W (BP g W s t).1 (BP g W s t).2/\(BP g W s t).2.length<100000:=fun t x=>by
  obtain⟨a,b⟩:=Ts y (by omega) h t
  grind
 have c:∀ t,t<=T->Cok g W (BP g W s t).1:=fun t x=>(f t x).1.cok y z A B M m (f t x).2
 have E:∀ t,t<T->¬ (BP g W s t).1.ds.flatten.length=0:=fun t x U=>by
  have:=(f t (by omega)).1.ov
  grind
 have d:∀ r j:Nat,j<W->r*W+j<T->EP ((BP g W s (r*W+j)).1.ts.map BL,(g:Int),(BP g W s (r*W+j)).1.dn,CX (BP g W s (r*W+j)).1.ds,(BP g W s (r*W+j)).1.ov,((BP g W s (r*W+j)).1.st:Int),((BP g W s (r*W+j)).1.idl:Int),(BP g W s (r*W+j)).2.map Dx,(r:Int),(W:Int),(j:Int),()) =
   some (.inl ((BP g W s (r*W+(j+1))).1.ts.map BL,(g:Int),(BP g W s (r*W+(j+1))).1.dn,CX (BP g W s (r*W+(j+1))).1.ds,(BP g W s (r*W+(j+1))).1.ov,((BP g W s (r*W+(j+1))).1.st:Int),((BP g W s (r*W+(j+1))).1.idl:Int),(BP g W s (r*W+(j+1))).2.map Dx,(r:Int),(W:Int),((j+1:Nat):Int),())):=by
  intro r j k i
  have F:r<=r*W:=Adg _ (by omega)
  unfold EP
  dsimp only
  rw[A3,Aar k]
  have p:=o _ i
  have G:=c _ (Acj i)
  have C:=(f _ (Acj i)).2
  have q:=AGU p
  have H:=AKS G
  have I:=E _ i
  have hd:=kv G C
  rw[Ac9]at q
  rw[q]
  generalize BP g W s (r*W+j)=S at p G C H I hd
  simp only[TB,Rv,p]at H
  simp only[p]at hd
  simp only[p,H]
  rw[BI,Aaq (by omega)]
  rw[A6 (by omega),wrap_add (by omega)]
  simp only[hd]
  rw[BI,Aar rfl]
  simp only[Aav]
  rw[AIB k,AOX M]
  have V:(r*W+j) % W=j:=by rw[Nat.mul_comm,Nat.mul_add_mod,AcV k]
  have X:(r*W+j)/W=r:=by rw[Nat.mul_comm,Nat.mul_add_div (by omega),Nat.div_eq_of_lt k];omega
  grind
 have l:∀ r:Nat,(r+1)*W<=T->F9 ((BP g W s (r*W)).1.ts.map BL,(g:Int),(BP g W s (r*W)).1.dn,CX (BP g W s (r*W)).1.ds,(BP g W s (r*W)).1.ov,((BP g W s (r*W)).1.st:Int),((BP g W s (r*W)).1.idl:Int),(BP g W s (r*W)).2.map Dx,(r:Int),()) =
   some (.inl ((BP g W s ((r+1)*W)).1.ts.map BL,(g:Int),(BP g W s ((r+1)*W)).1.dn,CX (BP g W s ((r+1)*W)).1.ds,(BP g W s ((r+1)*W)).1.ov,((BP g W s ((r+1)*W)).1.st:Int),((BP g W s ((r+1)*W)).1.idl:Int),(BP g W s ((r+1)*W)).2.map Dx,((r+1:Nat):Int),())):=by
  intro r J
  have F:r<=r*W:=Adg _ (by omega)
  rw[AdM]at J
  rw[F9]
  have K:(CX (BP g W s (r*W)).1.ds).length=W:=by rw[Mw];exact(c (r*W) (by omega)).w
  have e:=Gc (step:=EP) (fun j=>((BP g W s (r*W+j)).1.ts.map BL,(g:Int),(BP g W s (r*W+j)).1.dn,CX (BP g W s (r*W+j)).1.ds,(BP g W s (r*W+j)).1.ov,((BP g W s (r*W+j)).1.st:Int),((BP g W s (r*W+j)).1.idl:Int),(BP g W s (r*W+j)).2.map Dx,(r:Int),(W:Int),(j:Int),())) W
   (.inr (.inl ((BP g W s (r*W+W)).1.ts.map BL,(g:Int),(BP g W s (r*W+W)).1.dn,CX (BP g W s (r*W+W)).1.ds,(BP g W s (r*W+W)).1.ov,((BP g W s (r*W+W)).1.st:Int),((BP g W s (r*W+W)).1.idl:Int),(BP g W s (r*W+W)).2.map Dx,(r:Int),()))) (by omega)
   (fun j k=>d r j k (by omega)) (by unfold EP;dsimp only;rw[A3,Aaq (by omega)])
  simp only[AcD]at e
  have u:A' EP many ((BP g W s (r*W)).1.ts.map BL,(g:Int),(BP g W s (r*W)).1.dn,CX (BP g W s (r*W)).1.ds,(BP g W s (r*W)).1.ov,((BP g W s (r*W)).1.st:Int),((BP g W s (r*W)).1.idl:Int),(BP g W s (r*W)).2.map Dx,(r:Int),(W:Int),(0:Int),())=_:=e
  simp only[A7,K,u]
  rw[A6 (by omega),AdM]
 have v:F9 ((BP g W s (T/W*W)).1.ts.map BL,(g:Int),(BP g W s (T/W*W)).1.dn,CX (BP g W s (T/W*W)).1.ds,(BP g W s (T/W*W)).1.ov,((BP g W s (T/W*W)).1.st:Int),((BP g W s (T/W*W)).1.idl:Int),(BP g W s (T/W*W)).2.map Dx,((T/W:Nat):Int),()) =
   some (.inr (.inl ((BP g W s T).1.ts.map BL,(g:Int),(BP g W s T).1.dn,CX (BP g W s T).1.ds,(BP g W s T).1.ov,((BP g W s T).1.st:Int),((BP g W s T).1.idl:Int),(BP g W s T).2.map Dx,(0:Int),()))):=by
  have L:T/W*W+T % W=T:=by rw[Nat.mul_comm];exact Nat.div_add_mod T W
  have Q:=Acr T (show 0<W by omega)
  rw[F9]
  have K:(CX (BP g W s (T/W*W)).1.ds).length=W:=by rw[Mw];exact(c (T/W*W) (by omega)).w
  have e:=Gc (step:=EP) (fun j=>((BP g W s (T/W*W+j)).1.ts.map BL,(g:Int),(BP g W s (T/W*W+j)).1.dn,CX (BP g W s (T/W*W+j)).1.ds,(BP g W s (T/W*W+j)).1.ov,((BP g W s (T/W*W+j)).1.st:Int),((BP g W s (T/W*W+j)).1.idl:Int),(BP g W s (T/W*W+j)).2.map Dx,((T/W:Nat):Int),(W:Int),(j:Int),())) (T % W)
   (.inl ((BP g W s T).1.ts.map BL,(g:Int),(BP g W s T).1.dn,CX (BP g W s T).1.ds,(BP g W s T).1.ov,((BP g W s T).1.st:Int),((BP g W s T).1.idl:Int),(BP g W s T).2.map Dx,(0:Int),())) (by omega)
   (fun j k=>d (T/W) j (by omega) (by omega)) (by unfold EP;dsimp only;rw[L,A3,Aar Q,D])
  simp only[AcD]at e
  have u:A' EP many ((BP g W s (T/W*W)).1.ts.map BL,(g:Int),(BP g W s (T/W*W)).1.dn,CX (BP g W s (T/W*W)).1.ds,(BP g W s (T/W*W)).1.ov,((BP g W s (T/W*W)).1.st:Int),((BP g W s (T/W*W)).1.idl:Int),(BP g W s (T/W*W)).2.map Dx,((T/W:Nat):Int),(W:Int),(0:Int),())=_:=e
  simp only[A7,K,u]
 rw[ep,X2]
 have e:=Gc (step:=F9) (fun r=>((BP g W s (r*W)).1.ts.map BL,(g:Int),(BP g W s (r*W)).1.dn,CX (BP g W s (r*W)).1.ds,(BP g W s (r*W)).1.ov,((BP g W s (r*W)).1.st:Int),((BP g W s (r*W)).1.idl:Int),(BP g W s (r*W)).2.map Dx,(r:Int),())) (T/W) _ (by
   have:=Nat.div_le_self T W
   omega)
  (fun r J=>l r (Abk (AbY _ J) (Nat.div_mul_le_self T W))) v
 rw[Ack]at e
 have u:A' F9 many ((BP g W s 0).1.ts.map BL,(g:Int),(BP g W s 0).1.dn,CX (BP g W s 0).1.ds,(BP g W s 0).1.ov,((BP g W s 0).1.st:Int),((BP g W s 0).1.idl:Int),(BP g W s 0).2.map Dx,(0:Int),())=_:=e
 simp only[BP]at u
 simp_all
end
def cr0(n W:Nat):Crw:=⟨[⟨0,n,none,0⟩],List.replicate n false,[0]::List.replicate (W-1) [],false,0,0⟩
theorem kn(k:Nat):([0]::List.replicate k ([]:List Nat)).flatten=[0]:=by simp
theorem AZj{n W:Nat}(e:1<=n)(f:1<=W):StI n W (cr0 n W) []:=by
 have d:(cr0 n W).ds.flatten=[0]:=kn _;have get:∀ {i:Nat} {t:Tsk},(cr0 n W).ts[i]? = some t->i=0/\t=⟨0,n,none,0⟩:=by intro i t h;have g:([⟨0,n,none,0⟩]:List Tsk)[i]? = some t:=h;grind
 refine⟨⟨0,?_⟩,?_,?_,?_,rfl,Acq _⟩;rw[d];refine⟨by simp[cr0],⟨fun i t b => ?_,by simp,fun a c => ?_,fun a c j t b => ?_,fun i t b => ?_⟩,?_,fun u k => ?_,rfl,Acq _⟩;grind;simp at c;subst c;exact⟨_,rfl,rfl⟩;grind;obtain⟨rfl,rfl⟩:=get b;have:kids (cr0 n W).ts [0] 0=0:=by rcases Abz (kids (cr0 n W).ts [0] 0)with h|h;exact h;obtain⟨j,t,l,m,_⟩:=Ph.1 h;grind
 grind;have:([0]:List Nat).flatMap (rng (cr0 n W).ts)=List.range n:=by simp[rng,cr0,AcL]
 rw[this];simp[evU];have:(cr0 n W).dn[u]? = some false:=by show(List.replicate n false)[u]? = _;grind
 rw[this];simp[evU];rw[d];rfl;simp[cr0];omega;simp
theorem AJc{n:Nat}(h:n<=4294967296):CY (n:Int)=true:=(J3 _).2 (by omega)
theorem Fj{n:Nat}(h:n<=4294967296):(CY (n:Int)&&CY (n:Int)&&ile (n:Int) (n:Int)&&true)=true:=by rw[AJc h,BR,Aar (Int.le_refl _)];rfl
theorem Gy{α:Type}(n:Nat)(x:α):Df (A4 (n:Int)) x=List.replicate n x:=by rw[fB];rfl
theorem r8{g n:Nat}(c:1<=g)(a:g<=100)(d:1<=n)(b:n<=1000):Zl ((n:Int),(g:Int),())=some ((cr0 n 1).ts.map BL,(g:Int),List.replicate n false,0,()):=by rw[bm,W4];simp only[Rz,Aar (show 1<=(n:Int)/\(n:Int)<=1000/\1<=(g:Int)/\(g:Int)<=100 by omega),Aav,Fj (show n<=4294967296 by omega),Gy];rfl
theorem ACu{g n W:Nat}(c:1<=g)(a:g<=100)(d:1<=n)(b:n<=1000)(l:1<=W)(e:W<=8):
  TH ((n:Int),(g:Int),(W:Int),())=some ((cr0 n W).ts.map BL,(g:Int),(cr0 n W).dn,CX (cr0 n W).ds,false,0,0,0,()):=by
 rw[lH,fV];have f:ieq (0:Int) 0=true:=by rw[BI];rfl
 have h:ilt (W:Int) 1=false:=by rw[BF];grind
 have i:ilt 8 (W:Int)=false:=by rw[BF];grind
 obtain⟨k,rfl⟩:∃ k,W=k+1:=⟨W-1,by omega⟩
 have j:idx (List.replicate (k+1) ()) (0:Int)=some ():=by rw[Ke];rfl
 simp only[h,i,r8 c a d b,f,Aav,Fj (show k+1<=4294967296 by omega),Gy,j];rw[CM (by decide)];simp only[Aba];have:Bl (Df (k+1) ([]:List Int)) 0 [(0:Int)]=CX (cr0 n (k+1)).ds:=by show(List.replicate (k+1) ([]:List Int)).set 0 [0]=CX ([0]::List.replicate k []);rw[List.replicate_succ,List.set_cons_zero];unfold CX;rw[AbL,List.map_replicate];rfl
 rw[this];rfl
def pkS(g W:Nat):List (List Int)->Crw×List Evt->Crw×List Evt
 |[],s=>s
 |x::l,s=>if s.1.ov then s else pkS g W l ((stp g s.1 (CS W (A9 x 0 0)) (CS W (A9 x 1 0))).1,s.2++[(stp g s.1 (CS W (A9 x 0 0)) (CS W (A9 x 1 0))).2])
theorem ANM{g n W:Nat}(c:1<=g)(b:1<=W):∀ (l:List (List Int)) (s:Crw×List Evt),StI n W s.1 s.2->StI n W (pkS g W l s).1 (pkS g W l s).2/\(pkS g W l s).2.length<=s.2.length+l.length/\pot g (pkS g W l s).1.ts (pkS g W l s).1.ds.flatten<=pot g s.1.ts s.1.ds.flatten:=by
 intro l;induction l with
  |nil=>intro s h;exact⟨h,by simp[pkS]⟩
  |cons x l d=>intro s h;rw[pkS];split;grind;obtain⟨e,a⟩:=mc c h (Qm b (A9 x 0 0)) (Qm b (A9 x 1 0));obtain⟨f,k,i⟩:=d ((stp g s.1 (CS W (A9 x 0 0)) (CS W (A9 x 1 0))).1,s.2++[(stp g s.1 (CS W (A9 x 0 0)) (CS W (A9 x 1 0))).2]) e;refine⟨f,by grind,Abk i ?_⟩;rcases a with⟨a,j,_⟩|a;simp only[a,j];exact Aax _;exact Acj a
theorem AJl{g n W:Nat}(k:1<=g)(c:g<=100)(o:1<=n)(d:n<=1000)(f:1<=W)(h:W<=8){a:List (List Int)}(G:a.length<=4000){T:Nat}(y:T<=(2*n+1)*W)(b:(BP g W (pkS g W a (cr0 n W,[])) T).1.ov=true)(m:∀ t,t<T->(BP g W (pkS g W a (cr0 n W,[])) t).1.ov=false):
  StI n W (BP g W (pkS g W a (cr0 n W,[])) T).1 (BP g W (pkS g W a (cr0 n W,[])) T).2/\(BP g W (pkS g W a (cr0 n W,[])) T).2.length<=40000/\X1 ((n:Int),(g:Int),(W:Int),a,())=some (TB g (BP g W (pkS g W a (cr0 n W,[])) T).1,(BP g W (pkS g W a (cr0 n W,[])) T).2.map Dx,0,()):=by
 have p:=AZj (n:=n) (W:=W) o f;obtain⟨z,H,_⟩:=ANM k f a (cr0 n W,[]) p;obtain⟨A,B,C⟩:=ACI k c o d f h z (by grind) y b m;refine⟨A,B,?_⟩;rw[ku,eo];have q:ieq (0:Int) 0=true:=by rw[BI];rfl
 have e:=EC (step:=J7) (fun i (s:Crw×List Evt)=>((0:Int),false,(0:Int),(0:Int),s.1.ts.map BL,(g:Int),s.1.dn,CX s.1.ds,s.1.ov,(s.1.st:Int),(s.1.idl:Int),s.2.map Dx,a,(a.length:Int),(i:Int),())) a
  (fun x s=>if s.1.ov then .inr (.inl ((0:Int),false,(0:Int),(0:Int),s.1.ts.map BL,(g:Int),s.1.dn,CX s.1.ds,s.1.ov,(s.1.st:Int),(s.1.idl:Int),s.2.map Dx,()))else .inl ((stp g s.1 (CS W (A9 x 0 0)) (CS W (A9 x 1 0))).1,s.2++[(stp g s.1 (CS W (A9 x 0 0)) (CS W (A9 x 1 0))).2]))
  (fun s=>.inl ((0:Int),false,(0:Int),(0:Int),s.1.ts.map BL,(g:Int),s.1.dn,CX s.1.ds,s.1.ov,(s.1.st:Int),(s.1.idl:Int),s.2.map Dx,()))
  (fun i s=>StI n W s.1 s.2/\s.2.length<=i) (by omega)
  (fun i x s hi u v=>by
   have j:J7 ((0:Int),false,(0:Int),(0:Int),s.1.ts.map BL,(g:Int),s.1.dn,CX s.1.ds,s.1.ov,(s.1.st:Int),(s.1.idl:Int),s.2.map Dx,a,(a.length:Int),(i:Int),())=match s.1.ov with
     |true=>some (.inr (.inl ((0:Int),false,(0:Int),(0:Int),s.1.ts.map BL,(g:Int),s.1.dn,CX s.1.ds,s.1.ov,(s.1.st:Int),(s.1.idl:Int),s.2.map Dx,())))
     |false=>some (.inl ((0:Int),false,(0:Int),(0:Int),(stp g s.1 (CS W (A9 x 0 0)) (CS W (A9 x 1 0))).1.ts.map BL,(g:Int),(stp g s.1 (CS W (A9 x 0 0)) (CS W (A9 x 1 0))).1.dn,CX (stp g s.1 (CS W (A9 x 0 0)) (CS W (A9 x 1 0))).1.ds,(stp g s.1 (CS W (A9 x 0 0)) (CS W (A9 x 1 0))).1.ov,((stp g s.1 (CS W (A9 x 0 0)) (CS W (A9 x 1 0))).1.st:Int),((stp g s.1 (CS W (A9 x 0 0)) (CS W (A9 x 1 0))).1.idl:Int),(s.2++[(stp g s.1 (CS W (A9 x 0 0)) (CS W (A9 x 1 0))).2]).map Dx,a,(a.length:Int),((i+1:Nat):Int),())):=by
    unfold J7
    dsimp only
    have hd:=kv (v.1.cok k c o d f h (by omega)) (E:=s.2) (by omega) (A9 x 0 0) (A9 x 1 0)
    cases b:s.1.ov with
    |true=>simp only[A3,Aar hi,BA u]
    |false=>
     rw[b]at hd
     simp only[A3,Aar hi,BA u,hd,q,Aav]
     rw[A6 (by omega)]
   rw[j]
   cases b:s.1.ov with
   |true=>
    simp
   |false=>
    refine⟨fun I w => ?_,fun r J=>by grind⟩
    simp only[AbB,AbE,Sum.inl.injEq]at w
    subst w
    refine⟨rfl,(mc k v.1 (Qm f (A9 x 0 0)) (Qm f (A9 x 1 0))).1,?_⟩
    grind)
  (fun s _=>by
   unfold J7
   dsimp only
   rw[A3,Aaq (by omega)])
  (cr0 n W,[]) ⟨p,Aax _⟩
 have D:∀ (l:List (List Int)) (s:Crw×List Evt),walk (ρ:=((Int×Bool×Int×Int×List TkI×Int×List Bool×List (List Int)×Bool×Int×Int×List EvI×Unit)⊕(List TkI×Int×List Bool×List (List Int)×Bool×Int×Int×List EvI×Int×Unit)⊕Unit)) (fun x s=>if s.1.ov then .inr (.inl ((0:Int),false,(0:Int),(0:Int),s.1.ts.map BL,(g:Int),s.1.dn,CX s.1.ds,s.1.ov,(s.1.st:Int),(s.1.idl:Int),s.2.map Dx,()))else .inl ((stp g s.1 (CS W (A9 x 0 0)) (CS W (A9 x 1 0))).1,s.2++[(stp g s.1 (CS W (A9 x 0 0)) (CS W (A9 x 1 0))).2]))
  (fun s=>.inl ((0:Int),false,(0:Int),(0:Int),s.1.ts.map BL,(g:Int),s.1.dn,CX s.1.ds,s.1.ov,(s.1.st:Int),(s.1.idl:Int),s.2.map Dx,())) l s =
   .inl ((0:Int),false,(0:Int),(0:Int),(pkS g W l s).1.ts.map BL,(g:Int),(pkS g W l s).1.dn,CX (pkS g W l s).1.ds,(pkS g W l s).1.ov,((pkS g W l s).1.st:Int),((pkS g W l s).1.idl:Int),(pkS g W l s).2.map Dx,()):=by
  intro l
  induction l with
  |nil=>intro s;rfl
  |cons x l K=>
   intro s
   rw[walk,pkS]
   grind
 rw[D]at e;have F:A' J7 many ((0:Int),false,(0:Int),(0:Int),(cr0 n W).ts.map BL,(g:Int),(cr0 n W).dn,CX (cr0 n W).ds,false,(0:Int),(0:Int),([]:List EvI),a,(a.length:Int),(0:Int),())=_:=e;simp only[ACu k c o d f h,q,Aav,A7,F,C];rfl
theorem Aag(g:Nat){n W:Nat}(a:1<=n)(b:1<=W):pot g (cr0 n W).ts (cr0 n W).ds.flatten=tkN g n:=by
 obtain⟨k,rfl⟩:∃ k,W=k+1:=⟨W-1,by omega⟩
 show pot g (cr0 n (k+1)).ts (([0]::List.replicate k ([]:List Nat)).flatten)=_;rw[kn];simp[pot,Rs,cr0]
theorem ACD{g n W:Nat}(e:1<=g)(i:g<=100)(f:1<=n)(j:n<=1000)(h:1<=W)(k:W<=8){a:List (List Int)}(m:a.length<=4000):
  ∃ b:Crw×List Evt,StI n W b.1 b.2/\b.1.ov=true/\b.2.length<=40000/\b.2.length<=a.length+(tkN g n+1)*W/\X1 ((n:Int),(g:Int),(W:Int),a,())=some (TB g b.1,b.2.map Dx,0,()):=by obtain⟨l,o,p⟩:=ANM e h a (cr0 n W,[]) (AZj f h);rw[Aag g f h]at p;obtain⟨T,q,c,d⟩:=yu e (by omega) l;have:=AXj g n f;obtain⟨r,s,t⟩:=AJl e i f j h k m (Abk q (AbY _ (by omega))) c d;refine⟨_,r,c,s,?_,t⟩;have u:=(Ts e (by omega) l T).2;have v:=AbY W (show pot g (pkS g W a (cr0 n W,[])).1.ts (pkS g W a (cr0 n W,[])).1.ds.flatten+1<=tkN g n+1 by omega);simp only[Aa8]at o;omega
def K7(ts:List Tsk)(e:Evt):Option (Nat×Nat):=match e.ft with
 |some (_,t)=>if e.pt then none else ts[t]?.map fun k=>(k.lo,k.hi)
 |none=>none
def vp(p:Nat×Nat):Int×Int×Unit:=((p.1:Int),(p.2:Int),())
theorem v9{g n W:Nat}{s:Crw×List Evt}(h:StI n W s.1 s.2)(u:s.2.length<=40000):aS (TB g s.1,s.2.map Dx,())=some ((s.2.filterMap (K7 s.1.ts)).map vp,()):=by
 rw[fC,X3]
 have e:=Gc (step:=Km) (fun i=>(s.1.ts.map BL,(g:Int),s.1.dn,CX s.1.ds,s.1.ov,(s.1.st:Int),(s.1.idl:Int),((s.2.take i).filterMap (K7 s.1.ts)).map vp,s.2.map Dx,(s.2.length:Int),(i:Int),())) s.2.length (.inl ((s.2.filterMap (K7 s.1.ts)).map vp,())) (by omega)
  (fun i hi=>by
   unfold Km
   dsimp only
   have j:=Aaz hi
   have a:=h.ev s.2[i] (Ab5 hi)
   have c:s.2.take (i+1)=s.2.take i++[s.2[i]]:=by simp
   have l:((s.2.take i).filterMap (K7 s.1.ts)).length<=40000:=by
    grind
   rw[c,List.filterMap_append,Abm]
   have b:idx (s.2.map Dx) (i:Int)=some (Dx s.2[i]):=BA (by grind)
   simp only[A3,Aar hi,b]
   generalize s.2[i]=x at a b
   obtain⟨w,d,m⟩:=x
   rw[A6 (by omega)]
   cases m with
   |true=>
    have:K7 s.1.ts ⟨w,d,true⟩=none:=by unfold K7;grind
    simp only[Dx,Ac7,this,List.filterMap_nil,AcE,Abd]
   |false=>
    cases d with
    |none=>
     have:K7 s.1.ts ⟨w,none,false⟩=none:=rfl
     simp only[Dx,Ac7,this,List.filterMap_nil,AcE,Abd]
     rw[BF,Aar (by decide)]
    |some q=>
     obtain⟨f,t⟩:=q
     have o:=a f t rfl
     obtain⟨k,p⟩:∃ k,s.1.ts[t]? = some k:=⟨_,Aaz o⟩
     have:K7 s.1.ts ⟨w,some (f,t),false⟩=some (k.lo,k.hi):=by
      show(if false=true then none else s.1.ts[t]?.map _)=_
      grind
     simp only[Dx,Ac7,this,List.filterMap_nil]
     rw[BF,Aaq (by omega),A7,AbN,EN,Aaq (by omega),BA (IB p),A7,AbN]
     simp only[A7,Aa1,Aa8]
     rw[CM (by omega)]
     simp only[ES]
     rfl)
  (by unfold Km;dsimp only;rw[A3,Aaq (by omega),AbM])
 have r:A' Km many (s.1.ts.map BL,(g:Int),s.1.dn,CX s.1.ds,s.1.ov,(s.1.st:Int),(s.1.idl:Int),([]:List (Int×Int×Unit)),s.2.map Dx,(s.2.length:Int),(0:Int),())=_:=e;simp only[TB,Rv,A7,AbN,r]
def R1(p:Nat×Nat):List Nat:=List.range' p.1 (p.2-p.1)
theorem ym(ts:List Tsk)(E:List Evt):(E.filterMap (K7 ts)).flatMap R1=evU ts E:=by
 induction E with
  |nil=>rfl
  |cons e E a=>
   have:evU ts (e::E)=evU ts [e]++evU ts E:=by rw[<- aM];rfl
   rw[this,<- a];obtain⟨w,b,c⟩:=e;cases b with
    |none=>rw[Ac7];simp[K7,evU]
    |some q=>
     obtain⟨f,t⟩:=q;rw[Ac7];cases c with
      |true=>simp[K7,evU]
      |false=>
       simp only[K7,evU,AbB,AbE,Abr,Adr,Abd,rng];cases ts[t]? with
        |none=>rfl
        |some k=>simp[R1]
theorem hJ(c:List EvI)(a:List Int)(b hi:Nat)(d:List (Int×Int×Unit))(f g:Int)(k:b<=hi)(l:hi<=1000)(j:a.length<=1000000):
  A' Mq many (c,a,(b:Int),(hi:Int),d,f,g,((hi-b:Nat):Int),(0:Int),())=some (.inl (c,a++nI (List.range' b (hi-b)),d,f,g,())):=by
 have e:=Gc (step:=Mq) (fun i=>(c,a++nI (List.range' b i),(b:Int),(hi:Int),d,f,g,((hi-b:Nat):Int),(i:Int),())) (hi-b) (.inl (c,a++nI (List.range' b (hi-b)),d,f,g,())) (by omega)
  (fun i h=>by
   unfold Mq
   dsimp only
   rw[A3,Aar h,wrap_add (by omega),A6 (by omega),A7,A7]
   simp only[Aa3,Ck,List.length_range',Aa1,Aa8]
   rw[CM (by omega)]
   simp only[ES,AcC]
   rw[List.range'_concat]
   unfold nI
   simp)
  (by unfold Mq;dsimp only;rw[A3,Aaq (by omega)])
 have:a++nI (List.range' b 0)=a:=by simp[nI]
 grind
theorem S'(a b:Int)(c:List (List Int)):pE ((a,b,c,()),())=some (decide (1<=a/\a<=100/\1<=b/\b<=8/\c.length<=4000),()):=by
 rw[kY,eS];simp only[BR,A7];by_cases d:1<=a;by_cases e:a<=100;by_cases f:1<=b;by_cases g:b<=8;have:decide ((c.length:Int)<=4000)=decide (c.length<=4000):=by grind
 grind;grind;grind;grind;grind
def H3(p:Int×Int×List (List Int)×Unit):Prop:=1<=p.1/\p.1<=100/\1<=p.2.1/\p.2.1<=8/\p.2.2.1.length<=4000
instance (p:Int×Int×List (List Int)×Unit):Decidable (H3 p):=by unfold H3;exact inferInstance
theorem ABu{n:Int}{p:Int×Int×List (List Int)×Unit}(h:¬ (0<=n/\n<=1000/\H3 p)):Ct (n,p,())=some ([],0,1,()):=by rw[Q5,Pt];by_cases a:n<0;rw[BF,Aar a];rw[BF,Aaq a];by_cases b:1000<n;rw[BF,Aar b];rw[BF,Aaq b];have c:¬ H3 p:=fun d=>h ⟨by omega,by omega,d⟩;simp only[S'];rw[Aaq (by unfold H3 at c;exact c)];simp
theorem Yy{p:Int×Int×List (List Int)×Unit}(a:H3 p):Ct ((0:Int),p,())=some ([],0,0,()):=by rw[Q5,Pt];rw[BF,Aaq (by decide),BF,Aaq (by decide)];simp only[S'];rw[Aar (by unfold H3 at a;exact a),BI,Aar rfl];simp
theorem AJZ{g n W:Nat}(O:1<=g)(C:g<=100)(P:1<=n)(E:n<=1000)(Q:1<=W)(F:W<=8){a:List (List Int)}(R:a.length<=4000){s:Crw×List Evt}(o:StI n W s.1 s.2)(G:s.1.ov=true)(H:s.2.length<=40000)(x:X1 ((n:Int),(g:Int),(W:Int),a,())=some (TB g s.1,s.2.map Dx,0,())):
  (evU s.1.ts s.2).Perm (List.range n)/\1<=s.2.length/\Ct ((n:Int),((g:Int),(W:Int),a,()),())=some (nI (evU s.1.ts s.2),(s.2.length:Int),0,()):=by
 have y:=o.done G;have b:=y.length_eq;rw[Aa9]at b;refine⟨y,?_,?_⟩;rcases Abz s.2.length with z|z;rw[AbQ z]at b;simp[evU]at b;omega;omega;rw[Q5,Pt];rw[BF,Aaq (by omega),BF,Aaq (by omega)];have I:ieq (0:Int) 0=true:=by rw[BI];rfl
 have j:=v9 (g:=g) o H;simp only[TB,Rv]at j x;simp only[S',Aar (show 1<=(g:Int)/\(g:Int)<=100/\1<=(W:Int)/\(W:Int)<=8/\a.length<=4000 by omega),Aav];rw[BI,Aaq (by omega)];simp only[x,I,Aav,j];generalize A:s.2.filterMap (K7 s.1.ts)=S;have p:S.flatMap R1=evU s.1.ts s.2:=by rw[<- A];exact ym _ _
 have J:S.length<=40000:=by grind
 have r:∀ q∈S,q.1<=q.2/\q.2<=1000:=by
  intro q d;rw[<- A,List.mem_filterMap]at d;obtain⟨e,T,d⟩:=d;obtain⟨D,K⟩:=o.iv;unfold K7 at d;split at d;rename_i f t L;split at d;cases d;cases B:s.1.ts[t]? with
   |none=>grind
   |some k=>rw[B]at d;simp only[Acu,Aas]at d;subst d;have:=K.tr.tree t k B;omega
  grind
 have l:∀ i,i<=S.length->((S.take i).flatMap R1).length<=1000:=by
  intro i _;have U:((S.take i).flatMap R1).length<=(S.flatMap R1).length:=by
   conv=>rhs;rw[<- Abv i S,Abp,Aa3]
   omega
  grind
 have e:=Gc (step:=Mr) (fun i=>(s.2.map Dx,nI ((S.take i).flatMap R1),S.map vp,(S.length:Int),(i:Int),())) S.length (.inl (s.2.map Dx,nI (S.flatMap R1),())) (by omega)
  (fun i hi=>by
   unfold Mr
   dsimp only
   have M:=Aaz hi
   obtain⟨u,v⟩:=r _ (Ab5 hi)
   have w:S.take (i+1)=S.take i++[S[i]]:=by simp
   have h:(S.map vp)[i]? = some (vp S[i]):=by grind
   have V:=l i (by omega)
   rw[w,Abp]
   generalize S[i]=q at u v h
   obtain⟨m,c⟩:=q
   simp only[A3,Aar hi,BA h,CQ h,vp]
   simp only at u v
   rw[BM (show -9223372036854775808<=(c:Int)-m/\(c:Int)-m<=9223372036854775807 by omega),show(c:Int)-m=((c-m:Nat):Int) by omega]
   simp only[hJ _ _ m c _ _ _ u v (show(nI ((S.take i).flatMap R1)).length<=1000000 by rw[Ck];omega)]
   rw[A6 (by omega)]
   unfold nI
   rw[Abm]
   simp[R1])
  (by unfold Mr;dsimp only;rw[A3,Aaq (by omega),AbM])
 have N:A' Mr many (s.2.map Dx,([]:List Int),S.map vp,(S.length:Int),(0:Int),())=_:=e;simp only[A7,AbN,N,p]
theorem ABt{n:Nat}(f:1<=n)(c:n<=1000){p:Int×Int×List (List Int)×Unit}(i:H3 p):∃ (U:List Nat) (k:Nat),U.Perm (List.range n)/\1<=k/\k<=40000/\k<=p.2.2.1.length+(tkN p.1.toNat n+1)*p.2.1.toNat/\Ct ((n:Int),p,())=some (nI U,(k:Int),0,()):=by obtain⟨a,b,d,u⟩:=p;obtain⟨j,l,m,o,e⟩:=i;simp only at j l m o e;obtain⟨g,rfl⟩:=Aaw (show 0<=a by omega);obtain⟨W,rfl⟩:=Aaw (show 0<=b by omega);obtain⟨s,q,r,h,t,v⟩:=ACD (g:=g) (n:=n) (W:=W) (by omega) (by omega) f c (by omega) (by omega) e;obtain⟨w,x,y⟩:=AJZ (by omega) (by omega) f c (by omega) (by omega) e q r h v;exact⟨_,_,w,x,h,t,y⟩
theorem ADQ(a b:Int):IntKind.wrap .u32 (a+b)=(a+b) % 4294967296:=by rw[IntKind.wrap_u32]
def sm(xs:List Int):Int:=xs.sum % 4294967296
def ahL(xs:List Int):List Int:=(List.range xs.length).map fun i=>sm (xs.take i)
theorem AME(xs ys:List Int):sm (xs++ys)=(sm xs+sm ys) % 4294967296:=by unfold sm;simp
theorem ml(xs:List Int)(x:Int):sm (xs++[x])=(sm xs+x) % 4294967296:=by unfold sm;simp
def On{α:Type}(N:Nat)(f:Nat->α)(z:α)(i:Nat):List α:=(List.range N).map fun j=>if j<i then f j else z
theorem XT{α:Type}(N:Nat)(f:Nat->α)(z:α):On N f z 0=List.replicate N z:=by unfold On;apply AdO (by simp);simp
theorem dP{α:Type}(N:Nat)(f:Nat->α)(z:α):On N f z N=(List.range N).map f:=by unfold On;simp_all
theorem PZ{α:Type}(N:Nat)(f:Nat->α)(z:α)(i:Nat):(On N f z i).length=N:=by simp[On]
theorem dO{α:Type}(N:Nat)(f:Nat->α)(z:α)(i j:Nat):(On N f z i)[j]? = if j<N then some (if j<i then f j else z)else none:=by unfold On;grind
theorem dN{α:Type}{N:Nat}(f:Nat->α)(z:α){i:Nat}:(On N f z i).set i (f i)=On N f z (i+1):=by apply Abe;intro j;rw[Acz,dO,dO,PZ];grind
theorem Co{α:Type}{xs:List α}{i:Nat}{x:α}(h:xs[i]? = some x):xs.take (i+1)=xs.take i++[x]:=by rw[Adk,h];rfl
theorem Cf{α:Type}{xs:List α}{i:Nat}(h:i<xs.length):∃ x,xs[i]? = some x:=⟨_,Aaz h⟩
theorem Sa(xs:List Int)(d:xs.length<=1000000):XF (xs,())=some (ahL xs,sm xs,()):=by
 rw[jf,cR]
 have e:=Gc (step:=MJ) (fun i=>(On xs.length (fun j=>sm (xs.take j)) (0:Int) i,sm (xs.take i),xs,(xs.length:Int),(i:Int),())) xs.length (.inl (ahL xs,sm xs,())) (by omega)
  (fun i hi=>by
   obtain⟨x,a⟩:=Cf hi
   obtain⟨y,b⟩:=Cf (xs:=On xs.length (fun j=>sm (xs.take j)) (0:Int) i) (i:=i) (by rw[PZ];exact hi)
   rw[MJ,A3,Aar hi]
   simp only[BA a,BA b,D8,dN,ADQ]
   rw[A6 (by omega),Co a,ml])
  (by rw[MJ,A3,Aaq (by omega),dP,AbM];rfl)
 rw[XT]at e;have c:A' MJ many (List.replicate xs.length (0:Int),(0:Int),xs,(xs.length:Int),(0:Int),())=_:=e;simp only[A7,Fj (show xs.length<=4294967296 by omega),Gy,c]
theorem APt{α:Type}(f:Nat->α):∀ (U:List Nat) (a:List α) (j:Nat),(U.foldl (fun a i=>a.set i (f i)) a)[j]? = if j∈U/\j<a.length then some (f j)else a[j]? := by
 intro U;induction U with
  |nil=>simp
  |cons u U b=>intro a j;rw[Abu,b,AdB];grind
theorem N4{α:Type}(f:Nat->α)(U:List Nat):∀ (a:List α),(U.foldl (fun a i=>a.set i (f i)) a).length=a.length:=by
 induction U with
  |nil=>simp
  |cons u U b=>grind
theorem vb{α:Type}{f:Nat->α}{U:List Nat}{N:Nat}(b:∀ j,j<N->j∈U)(z:α):U.foldl (fun a i=>a.set i (f i)) (List.replicate N z)=(List.range N).map f:=by apply Abe;intro j;rw[APt,Aba];grind
def nbl(n b:Nat):Nat:=(n+b-1)/b
theorem dV{n b i:Nat}(a:1<=b):i<nbl n b↔i*b<n:=by unfold nbl;rw[Nat.lt_div_iff_mul_lt (by omega)];omega
theorem XV{n b:Nat}(a:1<=b):nbl n b<=n:=by
 rcases Abz n with h|h;subst h;unfold nbl;rw[Nat.div_eq_of_lt (by omega)];omega;have:¬ n<nbl n b:=by rw[dV a];have:n*1<=n*b:=Nat.mul_le_mul_left n a;omega
 omega
theorem W_(b:Int):b7 (b,())=some (decide (1<=b/\b<=100),()):=by rw[jT,bz,BR];by_cases a:1<=b;rw[Aar a,BR];simp[a];grind
theorem Yc{n b:Nat}(c:n<=1000)(d:1<=b)(a:b<=100):Zv ((n:Int),(b:Int),())=some ((nbl n b:Int),()):=by rw[cJ,XD];rw[BF,Aaq (by omega),BF,Aaq (by omega)];simp only[W_,Aar (show 1<=(b:Int)/\(b:Int)<=100 by omega),Aav];rw[wrap_add (by omega),B9 (by omega),Se,nS,Aa2 (by omega),<- Int.ofNat_tdiv];have:(n+b-1)/b<=2000:=Abk (Nat.div_le_self _ _) (by omega);unfold nbl;generalize (n+b-1)/b=q at this;rw[bA (by omega)]
def blk(xs:List Int)(b i:Nat):List Int:=(xs.take (min xs.length ((i+1)*b))).drop (i*b)
theorem jV{xs:List Int}{b i:Nat}(g:xs.length<=1000)(a:b<=100)(hi:i*b<=xs.length)(c:i<=1000):sH (xs,(i:Int),(b:Int),())=some (blk xs b i,()):=by
 rw[sG,mj];have h:i*b<=100000:=Aca c a;have j:(i+1)*b=i*b+b:=AdM i b;have d:w64 ((i:Int)*(b:Int))=((i*b:Nat):Int):=by rw[<- AdY,BM (by omega)]
 have e:w64 (w64 ((i:Int)+1)*(b:Int))=(((i+1)*b:Nat):Int):=by rw[A6 (by omega),<- AdY,BM (by omega)]
 have f:C8 (xs.length:Int) (((i+1)*b:Nat):Int)=((min xs.length ((i+1)*b):Nat):Int):=by unfold C8;omega
 simp only[A7,d,e,f];rw[ma (by omega) (Nat.min_le_left ..)];rfl
theorem wv{xs:List Int}{b i k:Nat}(a:i*b+k<=(i+1)*b):xs.take (i*b+k)=xs.take (i*b)++(blk xs b i).take k:=by rw[List.take_add];congr 1;unfold blk;apply Abe;grind
theorem Vu{xs:List Int}{b i:Nat}:(blk xs b i).length=min xs.length ((i+1)*b)-i*b:=by unfold blk;simp
theorem ASO{xs:List Int}{b i:Nat}:sm (xs.take ((i+1)*b))=(sm (xs.take (i*b))+sm (blk xs b i)) % 4294967296:=by have a:(i+1)*b=i*b+b:=AdM i b;have h:=wv (xs:=xs) (b:=b) (i:=i) (k:=b) (by omega);rw[<- a]at h;rw[h,AME];congr 2;rw[Abs (by rw[Vu];omega)]
theorem YS(xs:List Int)(b N:Nat):∀ i,i<=N->sm (((List.range N).map fun i=>sm (blk xs b i)).take i)=sm (xs.take (i*b)):=by
 intro i;induction i with
  |zero=>simp
  |succ i a=>intro hi;rw[Co (x:=sm (blk xs b i)) (by grind),ml,a (by omega),ASO]
theorem oE{l:List Nat}{i x:Nat}(h:l[i]? = some x):idx (nI l) (i:Int)=some (x:Int)/\A9 (nI l) (A4 (i:Int)) (0:Int)=(x:Int):=⟨BA (E0 h),CQ (E0 h)⟩
section
variable {xs:List Int} {b:Nat} (hl:xs.length<=1000) (hb:1<=b) (hb2:b<=100)
include hl hb hb2
theorem Aac{U:List Nat}{N:Nat}(m:N=nbl xs.length b)(d:U.Perm (List.range N))(k:Int):
  A' KM many (xs,(b:Int),k,nI U,List.replicate N (0:Int),(U.length:Int),(0:Int),())=some (.inl (xs,(b:Int),k,nI U,(List.range N).map (fun i=>sm (blk xs b i)),())):=by
 have n:N<=1000:=by rw[m];exact Abk (XV hb) hl
 have f:=d.length_eq;rw[Aa9]at f
 have e:=Gc (step:=KM) (fun i=>(xs,(b:Int),k,nI U,(U.take i).foldl (fun a i=>a.set i (sm (blk xs b i))) (List.replicate N (0:Int)),(U.length:Int),(i:Int),())) U.length (.inl (xs,(b:Int),k,nI U,(List.range N).map (fun i=>sm (blk xs b i)),())) (by omega)
  (fun i hi=>by
   obtain⟨u,g⟩:=Cf hi
   have c:u<N:=AbI.1 (d.mem_iff.1 (Aay g))
   have h:u*b<xs.length:=(dV hb).1 (m▸c)
   obtain⟨o,p⟩:=oE g
   obtain⟨y,q⟩:=Cf (xs:=(U.take i).foldl (fun a i=>a.set i (sm (blk xs b i))) (List.replicate N (0:Int))) (i:=u) (by rw[N4,Aba];exact c)
   have l:(blk xs b u).length<=1000000:=by rw[Vu];omega
   rw[KM,A3,Aar hi]
   simp only[o,p,jV hl hb2 (Acj h) (by omega),Sa _ l,BA q,D8]
   rw[A6 (by omega),Co g,AcB]
   rfl)
  (by
   rw[KM,A3,Aaq (by omega),AbM,vb fun j r=>d.mem_iff.2 (AbI.2 r)])
 exact e
theorem Aaa{i N:Nat}(hi:i<N)(m:i*b<xs.length)(w:N<=1000)(out:List Int)(n:out.length=xs.length)(d k:Int)(g:List Int)(h f:Int):
  A' KK many (xs,(b:Int),out,d,k,(List.range N).map (fun i=>sm (xs.take (i*b))),(i:Int),g,h,f,ahL (blk xs b i),((blk xs b i).length:Int),(0:Int),()) =
   some (.inl (xs,(b:Int),(List.range' (i*b) (blk xs b i).length).foldl (fun a p=>a.set p (sm (xs.take p))) out,d,k,(List.range N).map (fun i=>sm (xs.take (i*b))),g,h,f,())):=by
 have x:(i+1)*b=i*b+b:=AdM i b;have o:=Vu (xs:=xs) (b:=b) (i:=i);have q:(ahL (blk xs b i)).length=(blk xs b i).length:=by simp[ahL]
 have c:((List.range N).map (fun i=>sm (xs.take (i*b))))[i]? = some (sm (xs.take (i*b))):=by grind
 have e:=Gc (step:=KK) (fun j=>(xs,(b:Int),(List.range' (i*b) j).foldl (fun a p=>a.set p (sm (xs.take p))) out,d,k,(List.range N).map (fun i=>sm (xs.take (i*b))),(i:Int),g,h,f,ahL (blk xs b i),((blk xs b i).length:Int),(j:Int),())) (blk xs b i).length
  (.inl (xs,(b:Int),(List.range' (i*b) (blk xs b i).length).foldl (fun a p=>a.set p (sm (xs.take p))) out,d,k,(List.range N).map (fun i=>sm (xs.take (i*b))),g,h,f,())) (by omega)
  (fun j r=>by
   have l:(ahL (blk xs b i))[j]? = some (sm ((blk xs b i).take j)):=by
    unfold ahL
    grind
   have s:w64 (w64 ((i:Int)*(b:Int))+(j:Int))=((i*b+j:Nat):Int):=by
    have t:w64 ((i:Int)*(b:Int))=((i*b:Nat):Int):=by rw[<- AdY,BM (by omega)]
    rw[t,wrap_add (by omega)]
   obtain⟨y,u⟩:=Cf (xs:=(List.range' (i*b) j).foldl (fun a p=>a.set p (sm (xs.take p))) out) (i:=i*b+j) (by rw[N4,n];omega)
   have v:IntKind.wrap .u32 (sm (xs.take (i*b))+sm ((blk xs b i).take j))=sm (xs.take (i*b+j)):=by
    rw[ADQ,wv (by omega),AME]
   rw[KK,A3,Aar r]
   simp only[BA l,CQ l,BA c,CQ c,s,BA u,D8,v]
   rw[A6 (by omega),List.range'_concat,AcB]
   simp)
  (by rw[KK,A3,Aaq (by omega)])
 exact e
theorem Aab{U:List Nat}{N:Nat}(h:N=nbl xs.length b)(l:U.Perm (List.range N))(c k:Int):
  A' KL many (xs,(b:Int),List.replicate xs.length (0:Int),c,k,(List.range N).map (fun i=>sm (xs.take (i*b))),nI U,(U.length:Int),(0:Int),())=some (.inl (ahL xs,c,k,())):=by
 have m:N<=1000:=by rw[h];exact Abk (XV hb) hl
 have n:=l.length_eq;rw[Aa9]at n
 have e:=Gc (step:=KL) (fun i=>(xs,(b:Int),((U.take i).flatMap fun i=>List.range' (i*b) (blk xs b i).length).foldl (fun a p=>a.set p (sm (xs.take p))) (List.replicate xs.length (0:Int)),c,k,(List.range N).map (fun i=>sm (xs.take (i*b))),nI U,(U.length:Int),(i:Int),())) U.length (.inl (ahL xs,c,k,())) (by omega)
  (fun i hi=>by
   obtain⟨u,o⟩:=Cf hi
   have d:u<N:=AbI.1 (l.mem_iff.1 (Aay o))
   have g:u*b<xs.length:=(dV hb).1 (h▸d)
   obtain⟨t,v⟩:=oE o
   have q:(blk xs b u).length<=1000000:=by rw[Vu];omega
   have r:(ahL (blk xs b u)).length=(blk xs b u).length:=by simp[ahL]
   rw[KL,A3,Aar hi]
   simp only[t,v,jV hl hb2 (Acj g) (by omega),Sa _ q,A7,r]
   have s:=Aaa hl hb hb2 d g m (((U.take i).flatMap fun i=>List.range' (i*b) (blk xs b i).length).foldl (fun a p=>a.set p (sm (xs.take p))) (List.replicate xs.length (0:Int))) (by rw[N4,Aba]) c k (nI U) (U.length:Int) (i:Int)
   simp only[s]
   rw[A6 (by omega),Co o,Abp,AcB]
   simp)
  (by
   rw[KL,A3,Aaq (by omega),AbM]
   have:∀ j,j<xs.length->j∈U.flatMap fun i=>List.range' (i*b) (blk xs b i).length:=by
    intro j w
    have t:j/b*b<=j:=Nat.div_mul_le_self j b
    have v:j<(j/b+1)*b:=by
     rw[AdM]
     have x:j/b*b+j % b=j:=by rw[Nat.mul_comm];exact Nat.div_add_mod j b
     have:=Acr j (show 0<b by omega)
     omega
    refine Ab4.2 ⟨j/b,l.mem_iff.2 (AbI.2 (by rw[h,dV hb];omega)),?_⟩
    rw[Adj,Vu]
    omega
   rw[vb (f:=fun p=>sm (xs.take p)) this]
   rfl)
 exact e
theorem jR{p:Int×Int×List (List Int)×Unit}{U:List Nat}{k:Nat}(o:k<=40000)(g:U.Perm (List.range (nbl xs.length b)))(h:Ct ((nbl xs.length b:Int),p,())=some (nI U,(k:Int),0,())):
  jS (xs,(b:Int),p,())=some (ahL xs,sm xs,((2*k:Nat):Int),0,()):=by
 have j:nbl xs.length b<=1000:=Abk (XV hb) hl;have l:ieq (0:Int) 0=true:=by rw[BI];rfl
 obtain⟨a,c,q,u⟩:=p;rw[bw,Zo];have:To (xs,(b:Int),(a,c,q,()),())=some (ahL xs,sm xs,((2*k:Nat):Int),0,()):=by
  rw[SV,QY];simp only[W_,Aar (show 1<=(b:Int)/\(b:Int)<=100 by omega),Aav,A7];rw[BF,Aaq (by omega)];have d:=Aac hl hb hb2 rfl g (k:Int);simp only[Yc hl hb hb2,h,l,Aav,Fj (show nbl xs.length b<=4294967296 by omega),Gy,Ck,d];have m:((List.range (nbl xs.length b)).map fun i=>sm (blk xs b i)).length<=1000000:=by grind
  have e:ahL ((List.range (nbl xs.length b)).map fun i=>sm (blk xs b i))=(List.range (nbl xs.length b)).map fun i=>sm (xs.take (i*b)):=by unfold ahL;rw[AbN,Aa9];refine AcN fun i hi=>YS xs b _ i (Acj (AbI.1 hi))
  have f:sm ((List.range (nbl xs.length b)).map fun i=>sm (blk xs b i))=sm xs:=by
   have:=YS xs b (nbl xs.length b) (nbl xs.length b) (Aax _);rw[Abs (by simp)]at this;rw[this,Abs];have:=(dV (n:=xs.length) (i:=nbl xs.length b) hb)
   omega
  simp only[Sa _ m,e,f,Fj (show xs.length<=4294967296 by omega)];simp only[Aab hl hb hb2 rfl g (sm xs) (k:Int)];rw[show((2:Int)*(k:Int))=((2*k:Nat):Int) by omega,BM (by omega)]
 grind
end
theorem AGH{xs:List Int}{b:Int}{p:Int×Int×List (List Int)×Unit}(h:¬ (1<=b/\b<=100/\xs.length<=1000/\H3 p)):jS (xs,b,p,())=some ([],0,0,1,()):=by
 obtain⟨a,c,q,u⟩:=p;rw[bw,Zo];have:To (xs,b,(a,c,q,()),())=some ([],0,0,1,()):=by
  rw[SV,QY];simp only[W_,A7];by_cases d:1<=b/\b<=100;rw[Aar d];simp only[Aav];by_cases e:xs.length<=1000;rw[BF,Aaq (by omega)];obtain⟨b,rfl⟩:=Aaw (show 0<=b by omega);have f:¬ H3 (a,c,q,()):=fun g=>h ⟨d.1,d.2,e,g⟩;have i:Ct ((nbl xs.length b:Int),(a,c,q,()),())=some ([],0,1,()):=ABu fun j=>f j.2.2;have k:ieq (1:Int) 0=false:=by rw[BI];rfl
  simp only[Yc (b:=b) e (by omega) (by omega),i,k,AbF];rw[BF,Aar (by omega)];grind
 grind
theorem ABv{n:Nat}(a:n<=1000){p:Int×Int×List (List Int)×Unit}(b:H3 p):∃ (U:List Nat) (k:Nat),U.Perm (List.range n)/\(1<=n->1<=k)/\k<=40000/\Ct ((n:Int),p,())=some (nI U,(k:Int),0,()):=by rcases Abz n with h|h;subst h;exact⟨[],0,by simp,fun h=>by omega,by omega,Yy b⟩;obtain⟨U,k,c,d,e,_,f⟩:=ABt h a b;grind
def FO(m:Nat)(p:Int×Int×List (List Int)×Unit):Prop:=∀ n:Nat,n<=m->∃ (U:List Nat) (k:Nat),U.Perm (List.range n)/\(1<=n->1<=k)/\k<=40000/\Ct ((n:Int),p,())=some (nI U,(k:Int),0,())
theorem FO.mono{m a:Nat}{p:Int×Int×List (List Int)×Unit}(h:FO m p)(b:a<=m):FO a p:=fun n c=>h n (Abk c b)
theorem APw{p:Int×Int×List (List Int)×Unit}(a:H3 p):FO 1000 p:=fun _ b=>ABv b a
def MZ(keep:List Bool):List Int:=keep.map fun b=>if b then 1 else 0
theorem zf(keep:List Bool)(f:keep.length<=1000000):nU (keep,false,())=some (MZ keep,()):=by
 rw[jx,cx]
 have e:=Gc (step:=MN) (fun i=>(false,On keep.length (fun j=>if keep.getD j false then(1:Int)else 0) (0:Int) i,keep,(keep.length:Int),(i:Int),())) keep.length (.inl (MZ keep,())) (by omega)
  (fun i hi=>by
   obtain⟨x,a⟩:=Cf hi
   obtain⟨y,b⟩:=Cf (xs:=On keep.length (fun j=>if keep.getD j false then(1:Int)else 0) (0:Int) i) (i:=i) (by rw[PZ];exact hi)
   have c:keep.getD i false=x:=by grind
   rw[MN,A3,Aar hi]
   simp only[BA a,BA b,D8]
   rw[A6 (by omega),<- dN]
   cases x with
   |true=>grind
   |false=>
    simp only[c,AbB,AbE]
    have:(On keep.length (fun j=>if keep.getD j false then(1:Int)else 0) (0:Int) i).set i 0=On keep.length (fun j=>if keep.getD j false then(1:Int)else 0) (0:Int) i:=by
     apply Abe
     intro j
     rw[Acz]
     by_cases h:i=j
     ·subst h
      rw[Aa5 rfl,PZ,Aa5 hi,dO,Aa5 hi,Aa2 (by omega)]
     grind
    grind)
  (by
   rw[MN,A3,Aaq (by omega),dP]
   have:(List.range keep.length).map (fun j=>if keep.getD j false then(1:Int)else 0)=MZ keep:=by
    apply Abe
    intro j
    unfold MZ
    grind
   rw[this])
 rw[XT]at e;have d:A' MN many (false,List.replicate keep.length (0:Int),keep,(keep.length:Int),(0:Int),())=_:=e;simp only[A7,Fj (show keep.length<=4294967296 by omega),Gy,d]
def kept(keep:List Bool)(n:Nat):List Nat:=(List.range n).filter fun i=>keep.getD i false
theorem Xe(keep:List Bool)(n:Nat):kept keep (n+1)=kept keep n++(if keep.getD n false then [n]else []):=by unfold kept;rw[AbJ,AcX];grind
theorem aB(keep:List Bool):∀ n,(kept keep n).length<=n:=fun n=>by have:=Ach (fun i=>keep.getD i false) (List.range n);simpa [kept]using this
theorem UK(keep:List Bool){i n:Nat}(h:i<n)(b:keep.getD i false=true):(kept keep n)[(kept keep i).length]? = some i:=by
 have:∀ d,∃ r,kept keep (i+1+d)=kept keep i++i::r:=by
  intro d;induction d with
   |zero=>exact⟨[],by rw[AcD,Xe,b];rfl⟩
   |succ d c=>obtain⟨r,a⟩:=c;exact⟨r++(if keep.getD (i+1+d) false then [i+1+d]else []),by rw[<- Ac9,Xe,a];simp⟩
 obtain⟨r,a⟩:=this (n-(i+1));grind
theorem ADi{keep:List Bool}(d:keep.length<=1000000):∀ i,i<=keep.length->sm ((MZ keep).take i)=((kept keep i).length:Int):=by
 intro i;induction i with
  |zero=>intro _;simp[kept,sm]
  |succ i a=>
   intro hi;obtain⟨x,e⟩:=Cf (show i<keep.length by omega);have b:keep.getD i false=x:=by grind
   have c:(MZ keep)[i]? = some (if x then 1 else 0):=by unfold MZ;grind
   have:=aB keep i;rw[Co c,ml,a (by omega),Xe,Aa3,b];grind
theorem va{α:Type}{g:Nat->Nat}{v:Nat->α}:∀ (U:List Nat) (a:List α),U.Nodup->(∀ i∈U,∀ j∈U,g i=g j->i=j)->∀ i∈U,g i<a.length->(U.foldl (fun a i=>a.set (g i) (v i)) a)[g i]? = some (v i):=by
 intro U;induction U with
  |nil=>simp
  |cons u U f=>
   intro a d c i hi k;rw[Abu];rw[Abj]at d;rcases AbD.1 hi with rfl|hi;have:∀ (V:List Nat) (a:List α),(∀ j∈V,g j≠g i)->(V.foldl (fun a i=>a.set (g i) (v i)) a)[g i]? = a[g i]? := by
    intro V;induction V with
     |nil=>simp
     |cons x V b=>intro a h;rw[Abu,b _ fun j e=>h j (by simp[e]),Ac1 (h x (by simp))]
   grind;grind
theorem JO{α:Type}(g:Nat->Nat)(v:Nat->α)(U:List Nat):∀ (a:List α),(U.foldl (fun a i=>a.set (g i) (v i)) a).length=a.length:=by
 induction U with
  |nil=>simp
  |cons u U b=>grind
theorem AOt{keep:List Bool}{i j:Nat}(hi:keep.getD i false=true)(a:keep.getD j false=true)(h:(kept keep i).length=(kept keep j).length):i=j:=by have b:=UK keep (n:=i+j+1) (i:=i) (by omega) hi;have c:=UK keep (n:=i+j+1) (i:=j) (by omega) a;grind
theorem ANB{keep:List Bool}{U:List Nat}(l:U.Perm (List.range keep.length)):
  ((U.filter fun i=>keep.getD i false).foldl (fun a i=>a.set (kept keep i).length (i:Int)) (List.replicate (kept keep keep.length).length (0:Int)))=nI (kept keep keep.length):=by
 have c:=va (g:=fun i=>(kept keep i).length) (v:=fun i:Nat=>(i:Int)) (U.filter fun i=>keep.getD i false) (List.replicate (kept keep keep.length).length (0:Int))
  ((l.nodup_iff.2 AcM).filter _) (fun i hi j d h=>AOt (AbS.1 hi).2 (AbS.1 d).2 h)
 apply Abe;intro j;by_cases d:j<(kept keep keep.length).length;obtain⟨i,hi⟩:=Cf d;have n:=Aay hi;have b:=AbS.1 n;have e:i<keep.length:=AbI.1 b.1;have m:=UK keep e b.2;have f:(kept keep i).length=j:=by have k:(kept keep keep.length).Nodup:=List.nodup_range.filter _;exact(AdK (E2 m) k).1 (m.trans hi.symm)
 have:=c i (AbS.2 ⟨l.mem_iff.2 b.1,b.2⟩) (by grind);simp only[f]at this;rw[this,E0 hi];rw[AcS (by rw[JO,Aba];omega),AcS (by rw[Ck];omega)]
theorem tB{keep:List Bool}{b:Nat}(J:keep.length<=1000)(B:1<=b)(h:b<=100){p:Int×Int×List (List Int)×Unit}{U V:List Nat}{k m:Nat}(C:k<=40000)(K:m<=40000)
  (L:U.Perm (List.range (nbl keep.length b))) (M:Ct ((nbl keep.length b:Int),p,())=some (nI U,(k:Int),0,())) (j:V.Perm (List.range keep.length)) (l:Ct ((keep.length:Int),p,())=some (nI V,(m:Int),0,())) :
  Z0 (MZ keep,(b:Int),p,())=some (nI (kept keep keep.length),((2*k+m:Nat):Int),0,()):=by
 have D:ieq (0:Int) 0=true:=by rw[BI];rfl
 have n:(MZ keep).length=keep.length:=by simp[MZ]
 have E:=aB keep keep.length;have o:=j.length_eq;rw[Aa9]at o;have w:=jR (xs:=MZ keep) (b:=b) (by omega) B h (p:=p) (U:=U) C (by grind) (by grind);have f:sm (MZ keep)=((kept keep keep.length).length:Int):=by have:=ADi (keep:=keep) (by omega) keep.length (Aax _);grind
 rw[f]at w;obtain⟨a,c,q,u⟩:=p;rw[ct,XM];simp only[w,D,Aav,A7,n,l,Fj (show(kept keep keep.length).length<=4294967296 by omega),Gy,Ck]
 have e:=Gc (step:=KT) (fun i=>(MZ keep,ahL (MZ keep),((2*k:Nat):Int),(m:Int),((V.take i).filter fun i=>keep.getD i false).foldl (fun a i=>a.set (kept keep i).length (i:Int)) (List.replicate (kept keep keep.length).length (0:Int)),nI V,(V.length:Int),(i:Int),())) V.length
  (.inl (((2*k:Nat):Int),(m:Int),nI (kept keep keep.length),())) (by omega)
  (fun i hi=>by
   obtain⟨v,r⟩:=Cf hi
   have d:v<keep.length:=AbI.1 (j.mem_iff.1 (Aay r))
   obtain⟨F,G⟩:=oE r
   obtain⟨x,N⟩:=Cf d
   have z:keep.getD v false=x:=by grind
   have s:(MZ keep)[v]? = some (if x then 1 else 0):=by unfold MZ;grind
   have g:(ahL (MZ keep))[v]? = some ((kept keep v).length:Int):=by
    unfold ahL
    rw[AdI,List.getElem?_range (by omega)]
    show some (sm ((MZ keep).take v))=_
    rw[ADi (by omega) v (Acj d)]
   rw[KT,A3,Aar hi]
   simp only[F,G,BA s]
   rw[A6 (by omega),Co r,AcX,AcB]
   cases x with
   |true=>
    have t:(kept keep v).length<(kept keep keep.length).length:=E2 (UK keep d z)
    obtain⟨y,H⟩:=Cf (xs:=((V.take i).filter fun i=>keep.getD i false).foldl (fun a i=>a.set (kept keep i).length (i:Int)) (List.replicate (kept keep keep.length).length (0:Int))) (i:=(kept keep v).length) (by
     rw[JO (fun i=>(kept keep i).length) (fun i:Nat=>(i:Int)),Aba];exact t)
    have A:ieq (1:Int) 1=true:=by rw[BI];rfl
    simp only[Abc,A,BA g,CQ g,BA H,D8,Ac6,z]
    rfl
   |false=>
    have A:ieq (0:Int) 1=false:=by rw[BI];rfl
    grind)
  (by rw[KT,A3,Aaq (by omega),AbM,ANB j])
 have I:A' KT many (MZ keep,ahL (MZ keep),((2*k:Nat):Int),(m:Int),List.replicate (kept keep keep.length).length (0:Int),nI V,(V.length:Int),(0:Int),())=_:=e;simp only[I];rw[wrap_add (by omega)]
theorem za{keep:List Bool}{b:Nat}(f:keep.length<=1000)(g:1<=b)(d:b<=100){p:Int×Int×List (List Int)×Unit}{U V:List Nat}{k m:Nat}(i:k<=40000)(j:m<=40000)
  (l:U.Perm (List.range (nbl keep.length b))) (n:Ct ((nbl keep.length b:Int),p,())=some (nI U,(k:Int),0,())) (o:V.Perm (List.range keep.length)) (e:Ct ((keep.length:Int),p,())=some (nI V,(m:Int),0,())) :
  nT (keep,(b:Int),p,())=some (nI (kept keep keep.length),((2*k+m:Nat):Int),0,()):=by have h:=tB f g d i j l n o e;obtain⟨a,c,q,u⟩:=p;rw[jt,cp];simp only[zf keep (by omega),h]
def bkt(d:Nat->Nat)(l:List Nat)(v:Nat):List Nat:=l.filter fun i=>d i==v
def GM(d:Nat->Nat)(B:Nat)(l:List Nat):List Nat:=(List.range B).flatMap (bkt d l)
def Ff(d:Nat->Nat)(l:List Nat)(v:Nat):Nat:=(GM d v l).length
theorem OB(d:Nat->Nat)(B:Nat)(l:List Nat):GM d (B+1) l=GM d B l++bkt d l B:=by unfold GM;rw[AbJ,Abp];simp
theorem wo(d:Nat->Nat)(l:List Nat)(v:Nat):Ff d l (v+1)=Ff d l v+(bkt d l v).length:=by unfold Ff;rw[OB,Aa3]
theorem fH(d:Nat->Nat)(l:List Nat):∀ B,(GM d B l).Perm (l.filter fun i=>decide (d i<B)):=by
 intro B;induction B with
  |zero=>
   have:l.filter (fun i=>decide (d i<0))=[]:=Ado.2 fun a _=>by simp
   rw[this];exact List.Perm.refl _
  |succ B b=>
   rw[OB];have h:=List.filter_append_perm (fun i=>decide (d i<B)) (l.filter fun i=>decide (d i<B+1));refine List.Perm.trans ?_ h;have c:(l.filter fun i=>decide (d i<B+1)).filter (fun i=>decide (d i<B))=l.filter fun i=>decide (d i<B):=by rw[List.filter_filter];refine Acb fun x _ => ?_;grind
   have e:(l.filter fun i=>decide (d i<B+1)).filter (fun i => !decide (d i<B))=bkt d l B:=by unfold bkt;rw[List.filter_filter];refine Acb fun x _ => ?_;rw[AcH];simp;omega
   grind
theorem Y_{d:Nat->Nat}{B:Nat}{l:List Nat}(h:∀ i∈l,d i<B):(GM d B l).Perm l:=by have:=fH d l B;rw[AcO.2 fun a b=>Aar (h a b)]at this;omega
def Rx(d:Nat->Nat)(l:List Nat)(t:Nat):Nat:=Ff d l (d (l.getD t 0))+(bkt d (l.take t) (d (l.getD t 0))).length
theorem wJ(d:Nat->Nat)(l:List Nat){v B:Nat}(h:v<B):∃ r,GM d B l=GM d v l++(bkt d l v++r):=by
 have:∀ k,∃ r,GM d (v+1+k) l=GM d v l++(bkt d l v++r):=by
  intro k;induction k with
   |zero=>exact⟨[],by rw[AcD,OB];simp⟩
   |succ k a=>obtain⟨r,b⟩:=a;exact⟨r++bkt d l (v+1+k),by rw[<- Ac9,OB,b];simp⟩
 have:=this (B-(v+1));grind
theorem wK{d:Nat->Nat}{B:Nat}{l:List Nat}(h:∀ i∈l,d i<B){t x:Nat}(a:l[t]? = some x):(GM d B l)[Rx d l t]? = some x:=by
 have b:=h x (Aay a);have c:l.getD t 0=x:=by grind
 obtain⟨r,f⟩:=wJ d l b;unfold Rx;rw[c,f,Abb (by unfold Ff;omega)];unfold Ff;rw[Nat.add_sub_cancel_left];have g:bkt d l (d x)=bkt d (l.take t) (d x)++x::bkt d (l.drop (t+1)) (d x):=by
  have e:l=l.take t++x::l.drop (t+1):=by obtain⟨j,rfl⟩:=AbC.1 a;simp
  unfold bkt;grind
 grind
theorem pf{k:Nat->Nat}{m b B:Nat}{l:List Nat}(e:B=2 ^ b)(h:l.Pairwise fun i j=>k i % 2 ^ m<=k j % 2 ^ m):
  (GM (fun i=>k i/2 ^ m % B) B l).Pairwise fun i j=>k i % 2 ^ (m+b)<=k j % 2 ^ (m+b):=by
 have a:∀ i,k i % 2 ^ (m+b)=2 ^ m*(k i/2 ^ m % B)+k i % 2 ^ m:=by intro i;rw[Nat.pow_add,Nat.mod_mul,e];omega
 unfold GM;rw[List.pairwise_flatMap];constructor;intro v _;unfold bkt;have:=h.filter (fun i=>k i/2 ^ m % B==v);refine this.imp_of_mem fun {i j} hi d f => ?_;grind;refine List.pairwise_lt_range.imp fun {v w} c i hi j d => ?_;have g:k i/2 ^ m % B=v:=by simpa using (AbS.1 hi).2
 have n:k j/2 ^ m % B=w:=by simpa using (AbS.1 d).2
 rw[a,a,g,n];have o:=Acr (k i) (AdZ m);have p:2 ^ m*(v+1)<=2 ^ m*w:=Nat.mul_le_mul_left _ c;grind
def cX(k:Nat->Nat)(b:Nat)(l:List Nat):Nat->List Nat
 |0=>l
 |p+1=>GM (fun i=>k i/2 ^ (p*b) % 2 ^ b) (2 ^ b) (cX k b l p)
theorem jh(k:Nat->Nat)(b:Nat)(l:List Nat):∀ p,(cX k b l p).Perm l/\(cX k b l p).Pairwise fun i j=>k i % 2 ^ (p*b)<=k j % 2 ^ (p*b):=by
 intro p;induction p with
  |zero=>refine⟨List.Perm.refl _,?_⟩;simp only[Ack,Nat.pow_zero,Nat.mod_one];exact List.pairwise_of_forall fun _ _=>Aax _
  |succ p a=>refine⟨(Y_ fun i _=>Acr _ (AdZ b)).trans a.1,?_⟩;rw[AdM];exact pf rfl a.2
def S_(s:List Int):List Bool:=(List.range s.length).map fun i=>decide (i=0)||decide (s.getD (i-1) 0≠s.getD i 0)
end Go.Pev.Pl
end
