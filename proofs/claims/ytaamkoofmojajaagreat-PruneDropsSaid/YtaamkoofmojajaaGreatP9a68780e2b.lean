/- A part of the proofs of this seat: KA T18d PevTake PevClaim KB KC T19a KD T22a T21a T23a T23b T24a PlnC KE. -/
import Derived.Test.YtaamkoofmojajaaGreatP83acd0b8ef
import Derived.ProofKit
import Derived.ChangeArms
import Derived.ReadAgain
import Derived.Deep.Slices
import Derived.OpenShut
import Derived.KernelRfl
set_option linter.unusedVariables false
set_option linter.unusedSimpArgs false
set_option linter.unusedSectionVars false
set_option maxRecDepth 100000
section
section
namespace Go.Pev.Pl
open Tok
def In(n v:Int):Prop:=1≤n∧n≤64∧0≤v∧v<n
instance (n v:Int):Decidable (In n v):=inferInstanceAs (Decidable (_∧_))
def Sz(n:Int):Prop:=1≤n∧n≤64
instance (n:Int):Decidable (Sz n):=inferInstanceAs (Decidable (_∧_))
theorem Js(n:Int):LK (n,())=some (decide (Sz n),()):=by
 rw[ADR,PO]
 simp only[Ap]
 by_cases h1:1≤n<;>by_cases h2:n≤64<;>simp[Sz,h1,h2]
theorem Wq(n v:Int):tin (n,v,())=some (decide (In n v),()):=by
 rw[AYn,ATM]
 simp only[Js,Ap,Al]
 by_cases h1:1≤n<;>by_cases h2:n≤64<;>by_cases h3:0≤v<;>simp[In,Sz,h1,h2,h3]
def AfZ(n v:Int):Int:=if In n v then v else -1
def Dt(n u v:Int):Int:=if In n u∧In n v∧u≠v then n*(u+1)+v else -1
theorem FT{n u:Int}(h1:1≤n)(h2:n≤64)(h3:0≤u)(h4:u≤64):0≤n*u∧n*u≤4096:=by
 refine⟨Int.mul_nonneg (by omega) h3,?_⟩
 have:=Int.mul_le_mul h2 h4 h3 (by omega)
 omega
theorem AKA(n u v:Int):AU6 (n,u,v,())=some (Dt n u v,()):=by
 rw[ATN,AFl]
 simp only[Wq,Dt,Ao]
 by_cases h3:u=v
 ·simp[h3]
 ·by_cases h1:In n u
  ·by_cases h2:In n v
   ·obtain⟨a1,a2,a3,a4⟩:=h1
    obtain⟨b1,b2,b3,b4⟩:=h2
    have hb:=FT (u:=u+1) a1 a2 (by omega) (by omega)
    rw[Aj (n:=u+1) (by omega),Aj (n:=n*(u+1)) (by omega),Aj (n:=n*(u+1)+v) (by omega)]
    simp[In,a1,a2,a3,a4,b3,b4,h3]
   ·simp[h1,h2,h3]
  ·simp[h1,h3]
def B4(n t:Int):Option Tok:=
 if In n t then some (.ver t)
 else if Sz n∧n≤t∧t<n*(n+1)∧t/n-1≠t % n then some (.arc (t/n-1) (t % n))
 else none
def Ng:Option Tok→Int×Int×Bool×Bool×Unit
 |some (.ver v)=>(v,0,false,true,())
 |some (.arc u v)=>(u,v,true,true,())
 |none=>(0,0,false,false,())
def DS(n:Int):Tok→Int
 |.ver v=>v
 |.arc u v=>n*(u+1)+v
def okT(n:Int):Tok→Prop
 |.ver v=>In n v
 |.arc u v=>In n u∧In n v∧u≠v
theorem XK{n u v:Int}(h1:In n u)(h2:In n v):n≤n*(u+1)+v∧n*(u+1)+v<n*(n+1)∧(n*(u+1)+v)/n=u+1∧(n*(u+1)+v) % n=v:=by
 obtain⟨a1,a2,a3,a4⟩:=h1
 obtain⟨b1,b2,b3,b4⟩:=h2
 have e2:n*(u+1)=n*u+n:=by rw[Aid,Aie]
 have e3:n*(n+1)=n*n+n:=by rw[Aid,Aie]
 have hb:=FT (u:=u) a1 a2 (by omega) (by omega)
 have hle:n*(u+1)≤n*n:=Int.mul_le_mul_of_nonneg_left (by omega) (by omega)
 have hd:(n*(u+1)+v)/n=u+1:=by
  rw[Int.add_comm,Int.add_mul_ediv_left _ _ (by omega),Int.ediv_eq_zero_of_lt b3 b4];omega
 have hm:(n*(u+1)+v) % n=v:=by
  rw[Int.add_comm,Int.add_mul_emod_self_left,Int.emod_eq_of_lt b3 b4]
 exact⟨by omega,by omega,hd,hm⟩
theorem AIf{n t:Int}(hn:Sz n)(h1:n≤t)(h2:t<n*(n+1)):In n (t/n-1)∧In n (t % n)∧n*(t/n-1+1)+t % n=t:=by
 obtain⟨a1,a2⟩:=hn
 have g1:1≤t/n:=(Int.le_ediv_iff_mul_le (by omega)).2 (by omega)
 have g2:t/n<n+1:=(Int.ediv_lt_iff_lt_mul (by omega)).2 (by rw[Int.mul_comm];exact h2)
 have g3:=Int.emod_nonneg t (show n≠0 by omega)
 have g4:=Int.emod_lt_of_pos t (show 0<n by omega)
 have g5:=Int.mul_ediv_add_emod t n
 refine⟨⟨a1,a2,by omega,by omega⟩,⟨a1,a2,g3,g4⟩,?_⟩
 rw[Int.sub_add_cancel]
 exact g5
theorem DY{n:Int}{t:Tok}(h:okT n t):B4 n (DS n t)=some t:=by
 cases t with
 |ver v=>simp only[okT]at h;simp[B4,DS,h]
 |arc u v=>
  obtain⟨h1,h2,h3⟩:=h
  obtain⟨g1,g2,g3,g4⟩:=XK h1 h2
  have hni:¬ In n (n*(u+1)+v):=fun h=>by have:=h.2.2.2;omega
  have:u+1-1=u:=by omega
  simp only[B4,DS,hni,Af1,g3,g4,this]
  rw[Af0 ⟨⟨h1.1,h1.2.1⟩,g1,g2,h3⟩]
theorem TB{n x:Int}{t:Tok}(h:B4 n x=some t):okT n t∧DS n t=x:=by
 rw[B4]at h
 split at h
 ·cases h;exact⟨by assumption,rfl⟩
 ·split at h
  ·rename_i hh
   cases h
   obtain⟨d1,d2,d3⟩:=AIf hh.1 hh.2.1 hh.2.2.1
   exact⟨⟨d1,d2,hh.2.2.2⟩,d3⟩
  ·cases h
theorem E8{n u v:Int}(h:okT n (.arc u v)):Dt n u v=DS n (.arc u v):=by
 simp only[okT]at h
 rw[Dt,Af0 h];rfl
theorem GF{n:Int}{a b:Tok}(ha:okT n a)(hb:okT n b)(h:DS n a=DS n b):a=b:=by
 have:=DY ha
 rw[h,DY hb]at this
 exact(Ag9 this).symm
theorem AOa(n t:Int)(ht:-9223372036854775808≤t∧t≤9223372036854775807):Xc (n,t,())=some (Ng (B4 n t)):=by
 rw[ADQ,PN]
 simp only[Js]
 by_cases hs:Sz n
 ·obtain⟨a1,a2⟩:=hs
  have hb:=FT (u:=n) a1 a2 (by omega) (by omega)
  have e3:n*(n+1)=n*n+n:=by rw[Aid,Aie]
  rw[Aj (n:=n+1) (by omega),Aj (n:=n*(n+1)) (by omega)]
  simp only[Sz,a1,a2,AiT,Afx,Aft,Al,Ap]
  by_cases h1:t<0
  ·have hni:¬ In n t:=fun h=>by have:=h.2.2.1;omega
   have h2:¬ n≤t:=by omega
   simp only[h1,Afx,B4,hni,Af1,h2,AhD,and_false,Ng]
  ·simp only[h1,Af2]
   by_cases h2:n*(n+1)≤t
   ·have hni:¬ In n t:=fun h=>by have:=h.2.2.2;omega
    have h3:¬ t<n*(n+1):=by omega
    simp only[h2,Afx,B4,hni,Af1,h3,AhD,and_false,Ng]
   ·simp only[h2,Af2]
    by_cases h3:t<n
    ·have hi:In n t:=⟨a1,a2,by omega,h3⟩
     simp only[h3,Afx,B4,hi,AgC,Ng]
    ·have hni:¬ In n t:=fun h=>h3 h.2.2.2
     have hq:t.tdiv n=t/n:=Ahg (by omega)
     have hm:t.tmod n=t % n:=Int.tmod_eq_emod_of_nonneg (by omega)
     obtain⟨d1,d2,d3⟩:=AIf (t:=t) ⟨a1,a2⟩ (by omega) (by omega)
     have q1:=d1.2.2.1
     have q2:=d1.2.2.2
     simp only[h3,Af2,Rw,Pb,AGI,WE]
     rw[Afv (by omega),Afv (by omega),hq,hm,Aj (n:=t/n) (by omega)]
     simp only[]
     rw[Aj (n:=t/n-1) (by omega),Ao,B4,Afv hni]
     by_cases h4:t/n-1=t % n
     ·rw[Afv (by intro h;exact h.2.2.2 h4),Afk h4];rfl
     ·rw[Af0 ⟨⟨a1,a2⟩,by omega,by omega,h4⟩,Afj h4];rfl
 ·have hni:¬ In n t:=fun h=>hs ⟨h.1,h.2.1⟩
  simp only[hs,Af2,AgD,B4,hni,Af1,AhD,Ng]
theorem ARY(xs ys:List Int)(hs:xs.length<9223372036854775808):Sv (xs,ys,())=some (decide (xs=ys),()):=by
 rw[AES,QB,QK]
 by_cases hl:xs.length=ys.length
 ·rw[Afk hl]
  simp only[Aft]
  rcases X4 (step:=Ec) (fun i=>(xs,ys,((i:Nat):Int),())) xs.length (fun i => !decide (xs.getD i 0=ys.getD i 0)) (fun _=>.inl (false,())) (.inr (.inl ())) hs (fun i hi=>by
   rw[Ec,AN,AI,Afk hi]
   simp (disch:=omega) only[Ck (0:Int),AH,Ao]
   by_cases h:xs.getD i 0=ys.getD i 0
   ·rw[Afk h];simp
   ·rw[Afj h];simp) (by rw[Ec,AN,AI,Afj (by omega)])with⟨k,hk,hP,_,e⟩|⟨h,e⟩
  ·have e':AR Ec many (xs,ys,(0:Int),())=_:=e
   rw[e']
   have:xs≠ys:=VC (0:Int) (j:=k) (by simpa using hP)
   simp[this]
  ·have e':AR Ec many (xs,ys,(0:Int),())=_:=e
   rw[e']
   have:xs=ys:=G5 (0:Int) hl fun j hj=>by simpa using h j hj
   simp[this]
 ·rw[Afj hl]
  have:xs≠ys:=fun e=>hl (by rw[e])
  simp[this]
def BJ(n:Nat):List (List Int):=(List.range n).map fun(v:Nat)=>[(v:Int)]
theorem PS(n:Nat):BJ (n+1)=BJ n++[[(n:Int)]]:=by simp[BJ,Agz]
theorem T4(n:Nat):(BJ n).length=n:=by simp[BJ]
theorem AOo(N:Nat)(hN:N≤64)(c:Int):∀ (k i n:Nat),i+k=N→k<n→AQ HY n (c,(N:Int),BJ i,(N:Int),(i:Int),())=some (.inl (c,(N:Int),BJ N,())):=by
 intro k
 induction k with
 |zero=>
  intro i n hi hn
  obtain⟨n,rfl⟩:∃ k,n=k+1:=⟨n-1,by omega⟩
  have:i=N:=by omega
  subst this
  rw[AQ,HY,AI,Afj (by omega)]
 |succ k ih=>
  intro i n hi hn
  obtain⟨n,rfl⟩:∃ k,n=k+1:=⟨n-1,by omega⟩
  rw[AQ,HY,AI,Afk (by omega)]
  simp only[AN,T4,Afu,Af6]
  rw[BI (by omega),AH (by omega)]
  simp only[Cf,← PS]
  exact ih (i+1) n (by omega) (by omega)
def Gz(n:Int):Int×List (List Int)×Int×Unit:=if Sz n then(n,BJ n.toNat,0,())else(0,[],1,())
theorem ADc(n:Int):AJ8 (n,())=some (Gz n):=by
 have hm:4294967296<many:=by simp only[many];omega
 rw[AJ7,Wp,Gz]
 simp only[Js]
 by_cases h:Sz n
 ·obtain⟨h1,h2⟩:=h
  obtain⟨N,rfl⟩:=Afy (show 0≤n by omega)
  have hS:Sz (N:Int):=⟨by omega,by omega⟩
  have e:=AOo N (by omega) 0 N 0 many (by omega) (by omega)
  have e':AQ HY many (0,(N:Int),[],(N:Int),(0:Int),())=_:=e
  simp[hS,Ae,e']
 ·simp[h]
end Go.Pev.Pl
end
section
namespace Go.Pev.Pl
theorem Od(xs:List Int)(t:Int)(hs:xs.length<9223372036854775808):Oe (xs,t,())=some (pos xs t,()):=by
 rw[AEV,QF]
 have e:=Ip (step:=FY) (fun i=>(xs,t,AO xs,(i:Int),())) xs (fun x=>decide (x=t)) (fun i=>.inl ((i:Int),())) (.inr (.inl ())) hs
  (fun i x hi hx=>by
   rw[FY,AN,AI,Afk hi]
   simp only[Ag hx,Ao]
   by_cases h:x=t
   ·simp[h]
   ·simp only[h,Agb h,Af2];rw[AH (by omega)];simp)
  (by rw[FY,AN,AI,Afj (by omega)])
 have e':AR FY many (xs,t,AO xs,(0:Int),())=_:=e
 rw[e',AJE,pos]
 by_cases h:t∈xs<;>simp[h]
theorem GG(xs:List Int)(t:Int)(hs:xs.length<9223372036854775808):Ed (xs,t,())=some (decide (t∈xs),()):=by
 rw[Qh,Ir]
 simp only[Od xs t hs,Ap]
 by_cases h:t∈xs
 ·obtain⟨k,e,_⟩:=AGS h
  rw[e];simp[h]
 ·rw[Pe h];simp[h]
def Rt(xs:List Int):Prop:=xs.length≤1000∧(∀ x∈xs,0≤x∧x≤10000)∧xs.Nodup
instance (xs:List Int):Decidable (Rt xs):=inferInstanceAs (Decidable (_∧_∧_))
theorem Pz(xs:List Int):xs.Nodup↔∀ i,i<xs.length→xs.getD i 0∉xs.take i:=by
 rw[List.Nodup,Agr]
 constructor
 ·intro h i hi hm
  obtain⟨j,hj,e⟩:=Ahn.1 hm
  have:=h j i (by omega) hi (by omega)
  rw[Afm,Afp hi,AgH]at e
  exact this e
 ·intro h i j hi hj hij e
  apply h j hj
  rw[Afm,Afp hj,AgH,← e]
  exact Ahn.2 ⟨i,by omega,rfl⟩
theorem ANu(xs:List Int)(hs:xs.length<9223372036854775808):Dy (xs,())=some (xs.any (fun x=>decide (x<0)||decide (10000<x)),()):=by
 rw[Jf,D6,K0,Ex]
 have e:=Ip (step:=B2) (fun i=>(xs,AO xs,(i:Int),())) xs (fun x=>decide (x<0)||decide (10000<x)) (fun i=>.inl ((i:Int),())) (.inr (.inl ())) hs
  (fun i x hi hx=>by
   rw[B2,AN,AI,Afk hi]
   simp only[Ag hx,Al]
   rw[AH (by omega)]
   by_cases h:x<0
   ·simp[h]
   ·by_cases h2:10000<x
    ·simp[h,h2]
    ·simp[h,h2])
  (by rw[B2,AN,AI,Afj (by omega)])
 have e':AR B2 many (xs,AO xs,(0:Int),())=_:=e
 rw[e']
 generalize (xs.any fun x=>decide (x<0)||decide (10000<x))=b
 cases b<;>simp[Ap]
theorem Aab(xs:List Int)(hs:xs.length<9223372036854775808):once (xs,())=some (decide xs.Nodup,()):=by
 rw[ATr,AHE]
 have e:=Ch (step:=KA) (fun i m=>(xs,m,xs,AO xs,(i:Int),())) xs (fun x m=>.inl (Ah m x (IntKind.wrap .i64 (((AU m x).getD (0:Int))+(1:Int))))) (fun m=>.inl (xs,m,())) (fun _ _=>True) hs
  (fun i x m hi hx _=>by
   refine⟨fun m' h' => ?_,fun r h'=>by cases h'⟩
   cases h'
   rw[KA,AN,AI,Afk hi]
   simp only[Ag hx]
   rw[AH (by omega)]
   exact⟨rfl,trivial⟩)
  (fun m _=>by rw[KA,AN,AI,Afj (by omega)]) [] trivial
 have e':AR KA many (xs,([]:List (Int×Int)),xs,AO xs,(0:Int),())=_:=e
 rw[e',BL]
 have key:∀ (l:List Int) (m:List (Int×Int)),BA (l.foldl (fun m x=>Ah m x (IntKind.wrap .i64 (((AU m x).getD (0:Int))+(1:Int)))) m)=dd (BA m) l:=by
  intro l
  induction l with
  |nil=>intro m;rfl
  |cons x l ih=>intro m;rw[Agg,ih,OZ,dd]
 have hk:=key xs []
 generalize xs.foldl (fun m x=>Ah m x (IntKind.wrap .i64 (((AU m x).getD (0:Int))+(1:Int)))) []=m at *
 simp only[QK]
 have:m.length=(dd [] xs).length:=by rw[← Su,hk];rfl
 rw[this]
 simp only[Abq]
theorem OF(xs:List Int):OG (xs,())=some (decide (Rt xs),()):=by
 rw[ADt,PV,AN,Al]
 by_cases hl:xs.length≤1000
 ·rw[Afj (by omega)]
  simp only[ANu xs (by omega),Aab xs (by omega)]
  have hany:(xs.any fun x=>decide (x<0)||decide (10000<x)) = !decide (∀ x∈xs,0≤x∧x≤10000):=by
   rw[AhA]
   simp only[AhL,AhU,Afn,AhE,AgU]
   constructor
   ·rintro⟨x,hx,h⟩ hh
    have:=hh x hx
    omega
   ·intro h
    refine AgY fun hc=>h fun x hx => ?_
    refine AgY fun hn=>hc ⟨x,hx,by omega⟩
  rw[hany]
  by_cases h1:∀ x∈xs,0≤x∧x≤10000
  ·rw[Afk h1]
   by_cases h2:xs.Nodup
   ·rw[Afk h2,Afk (show Rt xs from⟨hl,h1,h2⟩)];rfl
   ·rw[Afj h2,Afj (show ¬ Rt xs from fun h=>h2 h.2.2)];rfl
  ·rw[Afj h1,Afj (show ¬ Rt xs from fun h=>h1 h.2.1)];rfl
 ·rw[Afk (by omega),Afj (show ¬ Rt xs from fun h=>hl h.1)]
def rot(xs:List Int)(k:Nat):List Int:=xs.drop k++xs.take k
theorem AXK(n:Nat)(hn:n<4294967296):ANO ((n:Int),())=some ([],()):=by
 have e0:IntKind.wrap .i64 ((n:Int)-IntKind.wrap .i64 ((0:Int)-0))=(n:Int):=by rw[Aj (n:=(0:Int)-0) (by omega),Aj (by omega)];omega
 rw[ANN,XI]
 simp only[e0,Al]
 rw[Afj (by omega)]
 simp only[]
 by_cases h:0<n
 ·rw[Afk (by omega)]
  have s1:Bz ([]:List Unit) (0:Int) (0:Int)=some []:=by rw[Mm];rfl
  have s2:Bz (Jd (AE (n:Int)) (0:Int)) (0:Int) (0:Int)=some []:=by
   rw[Mm,Kx,Af0 (by omega)]
   simp
  have s3:K7 (n:Int)=true:=(Jb _).2 (by omega)
  simp only[s1,s2,s3]
  rfl
 ·rw[Afj (by omega)]
theorem DB{α:Type}{xss:List (List α)}{i:Nat}{x:List α}(h:xss[i]? = some x):(xss.take (i+1)).flatten=(xss.take i).flatten++x:=by
 rw[List.take_add_one,h];simp
theorem D5{α:Type}(xss:List (List α))(i:Nat):(xss.take i).flatten.length≤xss.flatten.length:=by
 conv=>rhs;rw[← Agc i xss,List.flatten_append,Afs]
 omega
theorem MM(xss:List (List Int))(hs:xss.length<4294967296)(h:xss.flatten.length<4294967296):Is (xss,())=some (xss.flatten,()):=by
 rw[ABM,NP]
 have e:=Ch (step:=EM) (fun i (a:Nat)=>(xss,(a:Int),xss,AO xss,(i:Int),())) xss (fun x a=>.inl (a+x.length)) (fun a=>.inl (xss,(a:Int),())) (fun i a=>a=(xss.take i).flatten.length) (by omega)
  (fun i x a hi hx ha=>by
   refine⟨fun m' h' => ?_,fun r h'=>by cases h'⟩
   cases h'
   have h1:=DB hx
   have h2:=D5 xss (i+1)
   rw[h1,Afs]at h2
   rw[EM]
   simp only[AN]
   rw[AI,Afk hi]
   simp only[Ag hx]
   rw[wrap_add (by omega),AH (by omega),Al,Afj (by omega)]
   exact⟨rfl,by rw[h1,Afs,ha]⟩)
  (fun a _=>by rw[EM,AN,AI,Afj (by omega)]) 0 rfl
 have e':AR EM many (xss,(0:Int),xss,AO xss,(0:Int),())=_:=e
 rw[e',BL]
 have hsum:∀ (l:List (List Int)) (a:Nat),l.foldl (fun a x=>a+x.length) a=a+l.flatten.length:=by
  intro l
  induction l with
  |nil=>intro a;rfl
  |cons x l ih=>intro a;rw[Agg,ih,AhQ,Afs];omega
 rw[hsum,Ago]
 simp only[AXK _ h]
 have g:=Ch (step:=EK) (fun i (a:List Int)=>(a,xss,AO xss,(i:Int),())) xss (fun x a=>.inl (a++x)) (fun a=>.inl (a,())) (fun i a=>a=(xss.take i).flatten) (by omega)
  (fun i x a hi hx ha=>by
   refine⟨fun m' h' => ?_,fun r h'=>by cases h'⟩
   cases h'
   have h1:=DB hx
   have h2:=D5 xss (i+1)
   rw[h1,Afs]at h2
   rw[EK]
   simp only[AN]
   rw[AI,Afk hi]
   simp only[Ag hx]
   rw[AH (by omega),BI (by rw[ha];omega)]
   exact⟨rfl,by rw[h1,ha]⟩)
  (fun a _=>by rw[EK,AN,AI,Afj (by omega)]) [] rfl
 have g':AR EK many ([],xss,AO xss,(0:Int),())=_:=g
 rw[g',BL]
 have hcat:∀ (l:List (List Int)) (a:List Int),l.foldl (fun a x=>a++x) a=a++l.flatten:=by
  intro l
  induction l with
  |nil=>intro a;simp
  |cons x l ih=>intro a;rw[Agg,ih,AhQ,AgP]
 rw[hcat]
 rfl
theorem XV(xs:List Int)(k:Nat)(hk:k≤xs.length)(hs:xs.length<2147483648):Rb (xs,(k:Int),())=some (rot xs k,()):=by
 rw[ADP,PM]
 simp only[Du hk,Jv hk]
 rw[MM _ (by simp) (by simp;omega)]
 simp[rot]
def A5(xs:List Int)(t:Int):List Int:=rot xs (xs.findIdx (fun x=>decide (x=t)))
def Im(xs:List Int)(t:Int):List Int×Bool×Unit:=if Rt xs∧t∈xs then(A5 xs t,true,())else([],false,())
theorem YU{xs:List Int}{t:Int}(h:t∈xs):∃ a b,xs=a++t::b∧t∉a∧A5 xs t=t::b++a:=by
 obtain⟨k,e,hk,hg,h1,h2⟩:=AGS h
 rw[pos,Af0 h]at e
 have e':xs.findIdx (fun x=>decide (x=t))=k:=by omega
 refine⟨_,_,h1,h2,?_⟩
 rw[A5,e',rot]
 congr 1
 rw[AgX hk]
 congr 1
 simpa [hk]using hg
theorem ADv(xs:List Int)(t:Int):ADw (xs,t,())=some (Im xs t):=by
 rw[AKl,Wx,AD6,Pg,Im]
 simp only[OF]
 by_cases hr:Rt xs
 ·have hl:=hr.1
  simp only[hr,Afx,Aft,AhT]
  have e:AR EX many (xs,[],[t],AO [t],(0:Int),())=some (.inl ([pos xs t],())):=by
   have g:=Ch (step:=EX) (fun i (a:List Int)=>(xs,a,[t],AO [t],(i:Int),())) [t] (fun x a=>.inl (a++[pos xs x])) (fun a=>.inl (a,())) (fun i a=>a.length=i) (by simp)
    (fun i x a hi hx ha=>by
     refine⟨fun m' h' => ?_,fun r h'=>by cases h'⟩
     cases h'
     rw[EX,AN,AI,Afk hi]
     simp only[Ag hx,Od xs x (by omega)]
     simp only[Afu,Af6]at hi
     rw[AH (by omega),BI (by simp only[AN,Afu,Af6];omega)]
     exact⟨rfl,by simp[ha]⟩)
    (fun a _=>by rw[EX,AN,AI,Afj (by omega)]) [] rfl
   have g':AR EX many (xs,[],[t],AO [t],(0:Int),())=_:=g
   rw[g'];rfl
  rw[e]
  simp only[GG [pos xs t] (-1) (by simp)]
  by_cases h:t∈xs
  ·have hk:xs.findIdx (fun x=>decide (x=t))<xs.length:=AhP.2 ⟨t,h,by simp⟩
   rw[pos,Af0 h,Af0 h,A5]
   generalize xs.findIdx (fun x=>decide (x=t))=k at *
   rw[Afj (by simp)]
   have i0:idx [(k:Int)] (0:Int)=some (k:Int):=by rw[Eu];rfl
   have d0:AM [(k:Int)] 0 (0:Int)=(k:Int):=rfl
   simp only[AgD,Aft,i0,d0,XV xs k (by omega) (by omega)]
  ·rw[Pe h,Afv h]
   simp
 ·simp[hr]
def GW:List Int→Int
 |[]=>0
 |x::xs=>xs.foldl (fun a y=>Bt a y) x
theorem AR6:∀ (xs:List Int) (a:Int),(xs.foldl (fun a y=>Bt a y) a)≤a∧(∀ x∈xs,xs.foldl (fun a y=>Bt a y) a≤x)∧(xs.foldl (fun a y=>Bt a y) a=a∨xs.foldl (fun a y=>Bt a y) a∈xs):=by
 intro xs
 induction xs with
 |nil=>intro a;simp
 |cons x xs ih=>
  intro a
  rw[Agg]
  obtain⟨h1,h2,h3⟩:=ih (Bt a x)
  have hm:Bt a x≤a∧Bt a x≤x∧(Bt a x=a∨Bt a x=x):=by
   rw[Bt];split<;>omega
  refine⟨by omega,fun y hy => ?_,?_⟩
  ·rcases Afr.1 hy with rfl|hy
   ·omega
   ·exact h2 y hy
  ·rcases h3 with h|h
   ·rcases hm.2.2 with e|e
    ·exact .inl (by rw[h,e])
    ·exact .inr (by rw[h,e];simp)
   ·exact .inr (AgA _ h)
theorem Eb{xs:List Int}(h:xs≠[]):GW xs∈xs∧∀ x∈xs,GW xs≤x:=by
 cases xs with
 |nil=>exact absurd rfl h
 |cons x xs=>
  obtain⟨h1,h2,h3⟩:=AR6 xs x
  refine⟨?_,fun y hy => ?_⟩
  ·rcases h3 with h|h
   ·rw[GW,h];simp
   ·exact AgA _ h
  ·rcases Afr.1 hy with rfl|hy
   ·exact h1
   ·exact h2 y hy
theorem AdE{xs:List Int}{m:Int}(h1:m∈xs)(h2:∀ x∈xs,m≤x):GW xs=m:=by
 obtain⟨g1,g2⟩:=Eb (List.ne_nil_of_mem h1)
 have:=g2 m h1
 have:=h2 _ g1
 omega
theorem AMS(xs:List Int)(h:xs≠[])(hs:xs.length<9223372036854775808):AWM (xs,())=some (GW xs,()):=by
 cases xs with
 |nil=>exact absurd rfl h
 |cons x xs=>
  rw[ATz,AHK,AN,Al,Afj (by simp only[Afu];omega)]
  have i0:idx (x::xs) (0:Int)=some x:=by rw[Eu];rfl
  simp only[i0]
  simp only[Afu]at hs
  have e:=Ch (step:=KE) (fun i (a:Int)=>(x::xs,a,((i+1:Nat):Int),())) xs (fun y a=>.inl (Bt a y)) (fun a=>.inl (a,())) (fun _ _=>True) (by omega)
   (fun i y a hi hy _=>by
    refine⟨fun m' h' => ?_,fun r h'=>by cases h'⟩
    cases h'
    rw[KE,AN,AI,Afk (by simp only[Afu];omega)]
    simp only[Ag (xs:=x::xs) (n:=i+1) (by simpa using hy)]
    rw[AH (by omega)]
    exact⟨rfl,trivial⟩)
   (fun a _=>by rw[KE,AN,AI,Afj (by simp)]) x trivial
  have e':AR KE many (x::xs,x,(1:Int),())=_:=e
  rw[e',BL]
  rfl
def plain(xs:List Int):List Int:=if Rt xs∧xs≠[]then A5 xs (GW xs)else []
theorem APG(xs:List Int):YR (xs,())=some (plain xs,()):=by
 rw[ADu,PW,plain]
 simp only[OF]
 by_cases hr:Rt xs
 ·have hl:=hr.1
  simp only[hr,Afx,Aft,AhT]
  by_cases h:xs=[]
  ·subst h;simp[AN,Dr]
  ·have hp:0<xs.length:=List.length_pos_iff.2 h
   rw[AN,Ao,Afj (by omega)]
   have hm:=(Eb h).1
   have hk:xs.findIdx (fun x=>decide (x=GW xs))<xs.length:=AhP.2 ⟨_,hm,by simp⟩
   simp only[AMS xs h (by omega),Od xs _ (show xs.length<9223372036854775808 by omega)]
   rw[pos,Af0 hm,Af0 (by simpa using h),A5]
   simp only[XV xs _ (Ahp hk) (by omega)]
 ·simp[hr]
theorem Hf{xs:List Int}(hr:Rt xs)(h:xs≠[]):∃ a b,xs=a++GW xs::b∧plain xs=GW xs::b++a:=by
 obtain⟨a,b,h1,_,h2⟩:=YU (Eb h).1
 exact⟨a,b,h1,by rw[plain,Af0 ⟨hr,h⟩,h2]⟩
end Go.Pev.Pl
end
section
namespace Go.Pev.Pl
open Tok
def TI(n:Int)(xs:List Int):Prop:=∃ L,xs=L.map (DS n)∧(∀ t∈L,okT n t)∧T L
noncomputable instance (n:Int) (xs:List Int):Decidable (TI n xs):=Classical.propDecidable _
abbrev AS5:=List Int×List (Int×Int)×List (Int×Int)
abbrev AeS:=(Bool×Unit)⊕(List Int×List (Int×Int)×List (Int×Int)×Unit)⊕Unit
def goF(n x:Int)(s:AS5):AS5⊕AeS:=
 match B4 n x with
 |none=>.inr (.inl (false,()))
 |some t=>match Tok.step (s.1,BA s.2.1) t with
  |none=>.inr (.inl (false,()))
  |some s'=>match t with
   |.ver v=>.inl (s'.1,s.2.1,Ah s.2.2 v (IntKind.wrap .i64 (((AU s.2.2 v).getD (0:Int))+(1:Int))))
   |.arc _ v=>.inl (s'.1,if v∈BA s.2.1 then s.2.1 else Ah s.2.1 v 1,s.2.2)
def one(came:List (Int×Int)):Prop:=∀ k,(0<(AU came k).getD (0:Int))↔k∈BA came
theorem AWA{came:List (Int×Int)}(h:one came)(v:Int):one (Ah came v 1):=by
 intro k
 rw[G0,Et]
 by_cases e:k=v
 ·simp[e]
 ·simp only[e,Af1,false_or];exact h k
theorem AXW(n:Int)(xs:List Int)(i:Nat)(x:Int)(hx:xs[i]? = some x)(hi:i<xs.length)(hl:xs.length<4294967296)(hxr:-9223372036854775808≤x∧x≤9223372036854775807)
  (w:Int) (r:List Int) (came met:List (Int×Int)) (hr:r.length<4294967295) (hc:one came) (hsub:∀ y∈w::r,y∈BA came) :
  Il (n,(w::r).reverse,came,met,xs,AO xs,(i:Int),())=match goF n x (w::r,came,met)with
   |.inl s=>some (.inl (n,s.1.reverse,s.2.1,s.2.2,xs,AO xs,((i+1:Nat):Int),()))
   |.inr y=>some (.inr y):=by
 have hd:AO ((w::r).reverse)=((r.length+1:Nat):Int):=by simp[AN]
 have e1:IntKind.wrap .i64 (((r.length+1:Nat):Int)-1)=(r.length:Int):=by rw[An (by omega)];rfl
 have i1:idx ((w::r).reverse) (r.length:Int)=some w:=by rw[AHw];simp
 have g1:AM ((w::r).reverse) (AE (r.length:Int)) (0:Int)=w:=by rw[E1];simp
 have f1:∀ v:Int,fits (AO ((w::r).reverse)+AO [v])=true:=fun v=>BI (by rw[hd,AN];simp only[Afu,Af6];omega)
 have ap:∀ v:Int,A6 ((w::r).reverse) [v]=(v::w::r).reverse:=fun v=>by simp[Cf]
 rw[Il,AN,AI,Afk hi]
 rw[AN]at hd
 simp only[Ag hx,AOa n x hxr,goF]
 cases ht:B4 n x with
 |none=>rfl
 |some t=>
  cases t with
  |ver v=>
   simp only[Ng,Aft,AgD,AN,hd,e1,i1,g1,Ao,Tok.step]
   rw[AH (by omega)]
   by_cases h:w=v
   ·simp[h]
   ·simp[h]
  |arc u v=>
   simp only[Ng,Aft,AN,hd,e1,i1,g1,Ao,Tok.step]
   rw[AH (by omega)]
   by_cases h:w=u
   ·subst h
    rw[Afk rfl]
    simp only[Aft]
    cases r with
    |nil=>
     have z:ilt (0:Int) ((([]:List Int).length:Nat):Int)=false:=by rw[Al];rfl
     simp only[z]
     rw[Al]
     have hcv:=hc v
     by_cases hv:v∈BA came
     ·rw[Afk (hcv.2 hv)]
      simp[hv]
     ·rw[Afj (fun h=>hv (hcv.1 h))]
      have f2:=f1 v
      rw[AN,hd]at f2
      have hz:(AU came v).getD (0:Int)=0:=by rw[(VE came v).2 hv];rfl
      have w1:IntKind.wrap .i64 ((0:Int)+1)=1:=by rw[Aj (by omega)];rfl
      rw[AN]at f2
      simp only[f2,ap v,hz,w1,hv,Af1,AgC]
    |cons p r=>
     have z:ilt (0:Int) (((p::r).length:Nat):Int)=true:=by rw[Al,Afk (by simp only[Afu];omega)]
     have e2:IntKind.wrap .i64 ((((p::r).length:Nat):Int)-1)=(r.length:Int):=by
      rw[An (by simp only[Afu]at hr ⊢;omega)];rfl
     have i2:idx ((w::p::r).reverse) (r.length:Int)=some p:=by rw[AHw];simp
     have g2:AM ((w::p::r).reverse) (AE (r.length:Int)) (0:Int)=p:=by rw[E1];simp
     simp only[z,e2,i2,g2]
     by_cases hp:p=v
     ·subst hp
      rw[Afk rfl]
      have hmem:p∈BA came:=hsub p (by simp)
      have s1:Bz ((w::p::r).reverse) (0:Int) (((p::r).length:Nat):Int)=some ((p::r).reverse):=by
       rw[Jv (by simp)]
       rw[List.reverse_cons,AiQ (by simp)]
      have t1:Bi (AE (((p::r).reverse.length:Nat):Int)) ((w::p::r).reverse)=(p::r).reverse:=by
       rw[Bi,H9,List.reverse_cons (a:=w),AiQ rfl]
      simp only[s1,t1,hmem,AgC]
     ·rw[Afj hp]
      simp only[hp,Af1]
      rw[Al]
      have hcv:=hc v
      by_cases hv:v∈BA came
      ·rw[Afk (hcv.2 hv)]
       simp[hv]
      ·rw[Afj (fun h=>hv (hcv.1 h))]
       have f2:=f1 v
       rw[AN,hd]at f2
       have hz:(AU came v).getD (0:Int)=0:=by rw[(VE came v).2 hv];rfl
       have w1:IntKind.wrap .i64 ((0:Int)+1)=1:=by rw[Aj (by omega)];rfl
       rw[AN]at f2
       simp only[f2,ap v,hz,w1,hv,Af1,AgC]
   ·rw[Afj h]
    simp[h]
end Go.Pev.Pl
end
section
namespace Go.Pev.Pl
open Tok
theorem C5{a b:List Int}(ha:a.Nodup)(h:∀ x∈a,x∈b):a.length≤b.length:=by
 induction a generalizing b with
 |nil=>simp
 |cons x a ih=>
  obtain⟨b1,b2,rfl⟩:=AiS (h x (by simp))
  rw[AgG]at ha
  have:=ih (b:=b1++b2) ha.2 fun y hy=>by
   have:=h y (AgA _ hy)
   simp only[Afo,Afr]at this ⊢
   rcases this with h|rfl|h
   ·exact .inl h
   ·exact absurd hy ha.1
   ·exact .inr h
  simp only[Afs,Afu]at this ⊢
  omega
theorem Py{a b:List Int}(ha:a.Nodup)(h:∀ x∈a,x∈b)(hl:b.length≤a.length):∀ x∈b,x∈a:=by
 intro x hx
 refine AgY fun hn => ?_
 have:=C5 (a:=x::a) (b:=b) (AgG.2 ⟨hn,ha⟩) fun y hy=>by
  rcases Afr.1 hy with rfl|hy
  ·exact hx
  ·exact h y hy
 simp only[Afu]at this
 omega
theorem Xw{way c c2:List Int}(h:∀ x,x∈c↔x∈c2)(t:Tok):
  (Tok.step (way,c) t=none↔Tok.step (way,c2) t=none)∧∀ w1 c1,Tok.step (way,c) t=some (w1,c1)→∃ c1',Tok.step (way,c2) t=some (w1,c1')∧∀ x,x∈c1↔x∈c1':=by
 cases t with
 |ver v=>
  cases way with
  |nil=>simp[Tok.step]
  |cons w r=>
   by_cases e:w=v
   ·simp only[Tok.step,e,AgC]
    exact⟨by simp,fun w1 c1 hh=>by cases hh;exact⟨c2,rfl,h⟩⟩
   ·simp[Tok.step,e]
 |arc u v=>
  cases way with
  |nil=>simp[Tok.step]
  |cons w r=>
   by_cases e:w=u
   ·cases r with
    |nil=>
     by_cases hv:v∈c
     ·simp[Tok.step,e,hv,(h v).1 hv]
     ·have hv2:v∉c2:=fun q=>hv ((h v).2 q)
      simp only[Tok.step,e,AgC,hv,hv2,Af1]
      exact⟨by simp,fun w1 c1 hh=>by cases hh;exact⟨v::c2,rfl,fun x=>by simp[h]⟩⟩
    |cons p r=>
     by_cases e2:p=v
     ·simp only[Tok.step,e,AgC,e2]
      exact⟨by simp,fun w1 c1 hh=>by cases hh;exact⟨c2,rfl,h⟩⟩
     ·by_cases hv:v∈c
      ·simp[Tok.step,e,e2,hv,(h v).1 hv]
      ·have hv2:v∉c2:=fun q=>hv ((h v).2 q)
       simp only[Tok.step,e,AgC,e2,hv,hv2,Af1]
       exact⟨by simp,fun w1 c1 hh=>by cases hh;exact⟨v::c2,rfl,fun x=>by simp[h]⟩⟩
   ·simp[Tok.step,e]
structure GI(s:AS5):Prop where
 ne:s.1≠[]
 one:one s.2.1
 sub:∀ y∈s.1,y∈BA s.2.1
 nc:(BA s.2.1).Nodup
 nm:(BA s.2.2).Nodup
theorem AUM{n x:Int}{s s':AS5}(hi:GI s)(h:goF n x s = .inl s'):
  GI s'∧s'.1.length≤s.1.length+1∧∃ t c1,B4 n x=some t∧Tok.step (s.1,BA s.2.1) t=some (s'.1,c1)∧(∀ x,x∈c1↔x∈BA s'.2.1)∧(∀ y,y∈BA s'.2.2↔y∈BA s.2.2∨Tok.ver y=t):=by
 rw[goF]at h
 cases ht:B4 n x with
 |none=>rw[ht]at h;cases h
 |some t=>
  rw[ht]at h
  simp only at h
  cases hs:Tok.step (s.1,BA s.2.1) t with
  |none=>rw[hs]at h;cases h
  |some q=>
   obtain⟨w1,c1⟩:=q
   rw[hs]at h
   rcases B0 hs with⟨v,r,rfl,hw,e⟩|⟨u,v,r,rfl,hw,e⟩|⟨u,v,r,rfl,hw,hh,hn,e⟩
   ·cases h
    cases e
    refine⟨⟨hi.ne,hi.one,hi.sub,hi.nc,JO hi.nm _ _⟩,by simp,_,_,rfl,hs,fun x=>Iff.rfl,fun y => ?_⟩
    rw[Et]
    simp[or_comm]
   ·cases h
    cases e
    simp only at hw
    have hv:v∈BA s.2.1:=hi.sub v (by rw[hw];simp)
    simp only[hv,AgC]
    refine⟨⟨by simp,hi.one,fun y hy=>hi.sub y (by rw[hw];exact AgA _ hy),hi.nc,hi.nm⟩,by rw[hw];simp,_,_,rfl,hs,fun x=>Iff.rfl,fun y=>by simp⟩
   ·cases h
    cases e
    simp only at hw hn
    simp only[hn,Af1]
    refine⟨⟨by simp,AWA hi.one v,fun y hy => ?_,JO hi.nc _ _,hi.nm⟩,by rw[hw];simp,_,_,rfl,hs,fun x => ?_,fun y=>by simp⟩
    ·rw[Et]
     rcases Afr.1 hy with rfl|hy
     ·exact .inl rfl
     ·exact .inr (hi.sub y (by rw[hw];exact hy))
    ·rw[Et,Afr]
def ANS(s:AS5):AeS:=.inr (.inl (s.1.reverse,s.2.1,s.2.2,()))
theorem AXU(n:Int):∀ (xs:List Int) (s:AS5) (c:List Int),GI s→(∀ x,x∈c↔x∈BA s.2.1) →
  (∃ L s' c',xs=L.map (DS n)∧(∀ t∈L,okT n t)∧run (s.1,c) L=some (s'.1,c')∧walk (goF n) ANS xs s=ANS s'∧GI s'∧(∀ x,x∈c'↔x∈BA s'.2.1)∧(∀ x,x∈BA s'.2.2↔x∈BA s.2.2∨Tok.ver x∈L)) ∨
  (walk (goF n) ANS xs s = .inl (false,())∧∀ L,xs=L.map (DS n)→(∀ t∈L,okT n t)→run (s.1,c) L=none):=by
 intro xs
 induction xs with
 |nil=>intro s c hi hc;exact .inl ⟨[],s,c,rfl,by simp,rfl,rfl,hi,hc,by simp⟩
 |cons x xs ih=>
  intro s c hi hc
  rw[walk]
  have bad:∀ {t},B4 n x=some t→Tok.step (s.1,BA s.2.1) t=none→∀ L,x::xs=L.map (DS n)→(∀ t∈L,okT n t)→run (s.1,c) L=none:=by
   intro t ht hs L hL hok
   cases L with
   |nil=>cases hL
   |cons t' L=>
    simp only[AgM,AgB]at hL
    have h1:=DY (hok t' (by simp))
    rw[← hL.1,ht]at h1
    cases h1
    rw[A1,((Xw hc t).1).2 hs]
    rfl
  cases hg:goF n x s with
  |inr r=>
   simp only
   have hr:r = .inl (false,())∧∀ L,x::xs=L.map (DS n)→(∀ t∈L,okT n t)→run (s.1,c) L=none:=by
    rw[goF]at hg
    cases ht:B4 n x with
    |none=>
     rw[ht]at hg
     cases hg
     refine⟨rfl,fun L hL hok => ?_⟩
     cases L with
     |nil=>cases hL
     |cons t' L=>
      simp only[AgM,AgB]at hL
      have h1:=DY (hok t' (by simp))
      rw[← hL.1,ht]at h1
      cases h1
    |some t=>
     rw[ht]at hg
     simp only at hg
     cases hs:Tok.step (s.1,BA s.2.1) t with
     |none=>rw[hs]at hg;cases hg;exact⟨rfl,bad ht hs⟩
     |some q=>
      rw[hs]at hg
      cases t<;>cases hg
   rw[hr.1]
   exact .inr ⟨rfl,hr.2⟩
  |inl s'=>
   simp only
   obtain⟨hi',_,t,c1,ht,hs,hcc,hm⟩:=AUM hi hg
   obtain⟨c1',hs',hcc'⟩:=(Xw (c:=BA s.2.1) (c2:=c) (fun x=>(hc x).symm) t).2 _ _ hs
   obtain⟨g1,g2⟩:=TB ht
   rcases ih s' c1' hi' (fun x=>(hcc' x).symm.trans (hcc x))with⟨L,s2,c2,a1,a2,a3,a4,a5,a6,a7⟩|⟨a1,a2⟩
   ·refine .inl ⟨t::L,s2,c2,by simp[g2,a1],?_,by rw[A1,hs'];exact a3,a4,a5,a6,fun y => ?_⟩
    ·intro y hy
     rcases Afr.1 hy with rfl|hy
     ·exact g1
     ·exact a2 y hy
    ·rw[a7,hm,Afr,or_assoc]
   ·refine .inr ⟨a1,fun L hL hok => ?_⟩
    cases L with
    |nil=>cases hL
    |cons t' L=>
     simp only[AgM,AgB]at hL
     have h1:=DY (hok t' (by simp))
     rw[← hL.1,ht]at h1
     cases h1
     rw[A1,hs']
     exact a2 L hL.2 fun y hy=>hok y (AgA _ hy)
theorem APD:∀ {l:List Tok} {s s':List Int×List Int},run s l=some s'→s'.1.getLast? = s.1.getLast? := by
 intro l
 induction l with
 |nil=>intro s s' h;cases h;rfl
 |cons t l ih=>
  intro s s' h
  rw[A1,AgR]at h
  obtain⟨s1,h1,h2⟩:=h
  rw[ih h2]
  rcases B0 h1 with⟨v,r,rfl,hw,rfl⟩|⟨u,v,r,rfl,hw,rfl⟩|⟨u,v,r,rfl,hw,hh,hn,rfl⟩
  ·rfl
  ·rw[hw,AiY]
  ·rw[hw,AiY]
theorem AZA:∀ {l:List Tok} {s s':List Int×List Int},run s l=some s'→Tok.Inv s→∀ x,Tok.ver x∈l→x∈s'.2:=by
 intro l
 induction l with
 |nil=>intro s s' _ _ x hx;cases hx
 |cons t l ih=>
  intro s s' h hi x hx
  rw[A1,AgR]at h
  obtain⟨s1,h1,h2⟩:=h
  obtain⟨i1,i2,i3⟩:=Xv h1 hi
  rcases Afr.1 hx with rfl|hx
  ·have:=(IW h2 i1).2.1
   refine this x (i1.2 x ?_)
   simp only[st]at i3
   exact List.mem_of_head? i3
  ·exact ih h2 i1 x hx
theorem AWV{n:Int}{L:List Tok}(h:(L.map (DS n)).Nodup):L.Nodup:=by
 rw[List.Nodup,AhF]at h
 exact h.imp fun h e=>h (by rw[e])
theorem AUZ{n x:Int}{xs:List Int}(h:TI n (x::xs))(hm:GW (x::xs)=x):In n x:=by
 obtain⟨L,h1,h2,h3⟩:=h
 obtain⟨v,r,hr⟩:=h3.ANv
 have hv:Tok.ver v∈L:=(hr.mem _).2 (by simp)
 have hvx:v∈x::xs:=by rw[h1];exact Af7.2 ⟨_,hv,rfl⟩
 have h4:=(Eb (xs:=x::xs) (by simp)).2 v hvx
 rw[hm]at h4
 have h5:=(h2 _ hv).2.2.2
 cases L with
 |nil=>cases h1
 |cons t L=>
  simp only[AgM,AgB]at h1
  have h6:=h2 t (by simp)
  cases t with
  |ver w=>rw[h1.1];exact h6
  |arc p q=>
   have:=(XK h6.1 h6.2.1).1
   have e:x=n*(p+1)+q:=h1.1
   omega
theorem AbP(n:Int)(xs:List Int)(h0:xs≠[])(hs:xs.length<2147483648)(hr:∀ x∈xs, -9223372036854775808≤x∧x≤9223372036854775807)(hn:xs.Nodup)(hm:∀ x,xs.head? = some x→GW xs=x):
  AbS (n,xs,())=some (decide (TI n xs),()):=by
 cases xs with
 |nil=>exact absurd rfl h0
 |cons x0 tl=>
  rw[AUL,AIO]
  have i0:idx (x0::tl) (0:Int)=some x0:=by rw[Eu];rfl
  simp only[i0,Wq]
  by_cases hin:In n x0
  ·rw[Afk hin]
   simp only[Aft]
   have hS:GI ([x0],Ah [] x0 1,[]):=by
    refine⟨by simp,fun k => ?_,fun y hy => ?_,?_,by simp[BA]⟩
    ·have:AU (Ah ([]:List (Int×Int)) x0 1) k=if k=x0 then some 1 else none:=by rw[G0];rfl
     rw[this]
     by_cases e:k=x0<;>simp[e,Ah,BA]
    ·simp at hy;subst hy;simp[Ah,BA]
    ·simp[Ah,BA]
   have e:=Ch (step:=Il) (fun i (s:AS5)=>(n,s.1.reverse,s.2.1,s.2.2,x0::tl,AO (x0::tl),(i:Int),())) (x0::tl) (goF n) ANS (fun i s=>GI s∧s.1.length≤i+1) (by omega)
    (fun i x s hi hx ⟨hI,hlen⟩=>by
     obtain⟨way,came,met⟩:=s
     cases way with
     |nil=>exact absurd rfl hI.ne
     |cons w r=>
      have hst:=AXW n (x0::tl) i x hx hi (by omega) (hr x (Af3 hx)) w r came met (by simp only[Afu]at hlen hi hs;omega) hI.one hI.sub
      refine⟨fun s' h' => ?_,fun y h' => ?_⟩
      ·rw[h']at hst
       obtain⟨g1,g2,_⟩:=AUM hI h'
       refine⟨hst,g1,?_⟩
       simp only at g2 hlen
       omega
      ·rw[h']at hst
       exact hst)
    (fun s _=>by rw[Il,AN,AI,Afj (by omega)];rfl) ([x0],Ah [] x0 1,[]) ⟨hS,by simp⟩
   have e':AR Il many (n,[x0],Ah [] x0 1,[],x0::tl,AO (x0::tl),(0:Int),())=_:=e
   rw[e']
   have hk0:BA (Ah ([]:List (Int×Int)) x0 1)=[x0]:=rfl
   rcases AXU n (x0::tl) ([x0],Ah [] x0 1,[]) [x0] hS (fun x=>by rw[hk0])with⟨L,s',c',a1,a2,a3,a4,a5,a6,a7⟩|⟨a1,a2⟩
   ·rw[a4]
    obtain⟨t,L',rfl⟩:∃ t L',L=t::L':=by cases L with
     |nil=>cases a1
     |cons t L'=>exact⟨t,L',rfl⟩
    have ht:t = .ver x0:=by
     have h1:=DY (a2 t (by simp))
     simp only[AgM,AgB]at a1
     rw[← a1.1,B4,Af0 hin]at h1
     exact(Ag9 h1).symm
    subst ht
    have hLn:(Tok.ver x0::L').Nodup:=AWV (n:=n) (by rw[← a1];exact hn)
    have hbot:=APD a3
    have hvs:=AZA a3 (NY x0)
    have hk:(BA s'.2.2).length≤(BA s'.2.1).length:=C5 a5.nm fun x hx=>by
     have:=(a7 x).1 hx
     simp only[BA,Ah0,Ahi,false_or]at this
     exact(a6 x).1 (hvs x this)
    have hiff:(s'.1.length=1∧(BA s'.2.2).length=(BA s'.2.1).length)↔TI n (x0::tl):=by
     constructor
     ·rintro⟨l1,l2⟩
      obtain⟨w,hw⟩:=List.length_eq_one_iff.1 l1
      rw[hw]at hbot a3
      simp at hbot
      subst hbot
      refine⟨_,a1,a2,Tok.A0.toT ⟨w,L',c',rfl,a3,fun x hx => ?_⟩ hLn⟩
      have h1:=Py a5.nm (fun x hx=>by
       have:=(a7 x).1 hx
       simp only[BA,Ah0,Ahi,false_or]at this
       exact(a6 x).1 (hvs x this)) (by omega) x ((a6 x).1 hx)
      have:=(a7 x).1 h1
      simpa [BA]using this
     ·rintro⟨K,k1,k2,k3⟩
      have hKL:K=Tok.ver x0::L':=by
       have:∀ (A B:List Tok),A.map (DS n)=B.map (DS n)→(∀ t∈A,okT n t)→(∀ t∈B,okT n t)→A=B:=by
        intro A
        induction A with
        |nil=>intro B h _ _;cases B with
         |nil=>rfl
         |cons b B=>cases h
        |cons a A ih=>
         intro B h hA hB
         cases B with
         |nil=>cases h
         |cons b B=>
          simp only[AgM,AgB]at h
          rw[GF (hA a (by simp)) (hB b (by simp)) h.1,ih B h.2 (fun t ht=>hA t (by simp[ht])) fun t ht=>hB t (by simp[ht])]
       exact this _ _ (by rw[← k1,a1]) k2 a2
      subst hKL
      obtain⟨r,l',c,q1,q2,q3⟩:=k3.AFc
      cases q1
      rw[a3]at q2
      cases hs':s'.1 with
      |nil=>rw[hs']at q2;cases q2
      |cons w r'=>
       rw[hs']at q2
       cases q2
       refine⟨rfl,?_⟩
       have:=C5 a5.nc (b:=BA s'.2.2) fun x hx=>(a7 x).2 (.inr (q3 x ((a6 x).2 hx)))
       omega
    simp only[ANS,Ao,AN,List.length_reverse]
    rw[Su,Su]at hiff
    by_cases l1:s'.1.length=1
    ·rw[Afk (show(s'.1.length:Int)=1 by omega)]
     simp only[l1,AhT]at hiff
     by_cases l2:s'.2.2.length=s'.2.1.length
     ·rw[Afk (show(s'.2.2.length:Int)=(s'.2.1.length:Int) by omega),Afk (hiff.1 l2)]
     ·rw[Afj (show ¬ (s'.2.2.length:Int)=(s'.2.1.length:Int) by omega),Afj (fun h=>l2 (hiff.2 h))]
    ·rw[Afj (show ¬ (s'.1.length:Int)=1 by omega),Afj (fun h=>l1 (hiff.2 h).1)]
   ·rw[a1]
    have:¬ TI n (x0::tl):=by
     rintro⟨K,k1,k2,k3⟩
     obtain⟨r,l',c,q1,q2,q3⟩:Tok.A0 K:=by
      obtain⟨t,L',rfl⟩:∃ t L',K=t::L':=by cases K with
       |nil=>cases k1
       |cons t L'=>exact⟨t,L',rfl⟩
      have h1:=DY (k2 t (by simp))
      simp only[AgM,AgB]at k1
      rw[← k1.1,B4,Af0 hin]at h1
      cases h1
      exact k3.AFc
     have hr0:r=x0:=by
      subst q1
      simp only[AgM,AgB]at k1
      exact k1.1.symm
     subst hr0
     have:=a2 K k1 k2
     simp only at this
     rw[q2]at this
     cases this
    simp[this]
  ·rw[Afj hin]
   have:¬ TI n (x0::tl):=fun h=>hin (AUZ h (hm x0 rfl))
   simp[this]
end Go.Pev.Pl
end
end
section
namespace Go.Pev.Pl.Tok
theorem Adt{v:Int}{p:List Tok}{c:List Int}(h:run ([v],[v]) p=some ([v],c))(hc:∀ x∈c,Tok.ver x∈p)(hn:p.Nodup):T p:=by
 cases p with
 |nil=>
  cases h
  have:=hc v (by simp)
  cases this
 |cons t p=>
  have h':=h
  rw[A1,AgR]at h'
  obtain⟨s1,h1,h2⟩:=h'
  rcases B0 h1 with⟨y,r,rfl,hw,rfl⟩|⟨a,b,r,rfl,hw,rfl⟩|⟨a,b,r,rfl,hw,hh,hnc,rfl⟩
  ·simp only[AgB]at hw
   obtain⟨rfl,rfl⟩:=hw
   exact A0.toT ⟨_,p,c,rfl,h,hc⟩ hn
  ·simp at hw
  ·simp only[AgB]at hw
   obtain⟨rfl,rfl⟩:=hw
   simp only at hnc
   have hne:v≠b:=by rintro rfl;exact hnc (by simp)
   have hT:T ([Tok.arc v b]++comp [Tok.arc v b] [b,v]):=by
    have:comp [Tok.arc v b] [b,v]=[.ver b,.arc b v,.ver v]:=by simp[comp]
    rw[this]
    have h3:=T.add (.ver v) [] b (T.one v) hne (by simp;exact Agb hne)
    exact T.rot [.ver v] [.arc v b,.ver b,.arc b v] h3
   have:=AbR p [.arc v b] [b,v] [b,v] c v (.arc v b) h2 ⟨by simp;exact Agb hne,by simp⟩ (by simp) rfl hT (by
    intro x hx
    have e:comp [Tok.arc v b] [b,v]=[.ver b,.arc b v,.ver v]:=by simp[comp]
    rw[e]at hx
    simp at hx
    simp[hx]) hc hn
   exact this
theorem T.join{u v:Int}{a b:List Tok}(hA:T (.ver u::a))(hB:T (.ver v::b))(hd:∀ x,Tok.ver x∈Tok.ver u::a→Tok.ver x∉Tok.ver v::b):
  T (.ver u :: .arc u v::(.ver v::b ++ .arc v u::a)):=by
 obtain⟨_,fA2,fA3⟩:=hA.facts
 obtain⟨_,fB2,fB3⟩:=hB.facts
 have nA:=hA.nodup
 have nB:=hB.nodup
 obtain⟨_,_,c1,e1,h1,m1⟩:=hA.AFc
 cases e1
 obtain⟨_,_,c2,e2,h2,m2⟩:=hB.AFc
 cases e2
 have huv:u≠v:=by rintro rfl;exact hd u (by simp) (by simp)
 have nAB:∀ t,t∈Tok.ver u::a→t∉Tok.ver v::b:=fun t ht hb=>hd _ (fA2 t ht) (fB2 t hb)
 have n1:Tok.arc u v∉Tok.ver u::a:=fun h=>hd v (fA3 _ _ h).2.1 (by simp)
 have n2:Tok.arc u v∉Tok.ver v::b:=fun h=>hd u (by simp) (fB3 _ _ h).1
 have n3:Tok.arc v u∉Tok.ver u::a:=fun h=>hd v (fA3 _ _ h).1 (by simp)
 have n4:Tok.arc v u∉Tok.ver v::b:=fun h=>hd u (by simp) (fB3 _ _ h).2.1
 have hnd:(Tok.ver u :: .arc u v::(.ver v::b ++ .arc v u::a)).Nodup:=by
  rw[AgG]at nA
  have q1:Tok.ver u∉Tok.ver v::b:=nAB _ (by simp)
  rw[AgG,AgG,Ahq,AgG (a:=Tok.arc v u)]
  refine⟨?_,?_,nB,⟨fun h=>n3 (AgA _ h),nA.2⟩,fun x hx y hy => ?_⟩
  ·intro h
   rcases Afr.1 h with h|h
   ·cases h
   ·rcases Afo.1 h with h|h
    ·exact q1 h
    ·rcases Afr.1 h with h|h
     ·cases h
     ·exact nA.1 h
  ·intro h
   rcases Afo.1 h with h|h
   ·exact n2 h
   ·rcases Afr.1 h with h|h
    ·cases h;exact huv rfl
    ·exact n1 (AgA _ h)
  ·rintro rfl
   rcases Afr.1 hy with h|h
   ·subst h;exact n4 hx
   ·exact nAB x (AgA _ h) hx
 rw[A1,DG,AgS]at h1
 obtain⟨d2,k1,k2⟩:=HG (Z:=(· = u)) (c2:=[v,u]) (low:=[u]) h2 (by simp) (fun y=>by simp) (fun p w hm=>by rintro rfl;exact hd w (by simp) (fB3 _ _ hm).2.1) (by simp)
 obtain⟨d3,g1,g2⟩:=HG (Z:=(·∈c2)) (c2:=d2) (low:=[]) h1 (by simp) (fun y=>by rw[k2];simp[or_comm]) (fun p w hm hz=>hd w (fA3 _ _ (AgA _ hm)).2.1 (m2 w hz)) (by simp)
 refine A0.toT ⟨u,_,d3,rfl,?_,fun x hx => ?_⟩ hnd
 ·rw[A1,DG,AgS,A1,FI _ _ _ _ (by simp) (by simp;exact Agb huv),AgS,DK]
  rw[show([v]++[u]:List Int)=[v,u]from rfl]at k1
  rw[k1,AgS,A1,GJ,AgS]
  simpa using g1
 ·rcases(g2 x).1 hx with h|h
  ·have:=m1 x h
   simp only[Afr,Afo]at this ⊢
   rcases this with h|h<;>simp[h]
  ·have:=m2 x h
   simp only[Afr,Afo]at this ⊢
   rcases this with h|h<;>simp[h]
theorem AeX{u v:Int}(huv:u≠v):∀ {l:List Tok} {x w1 c c1 c0:List Int},run (x++[v,u],c) l=some (w1,c1)→Tok.arc v u∉l→(∀ y,y∈c↔y∈c0∨y=u)→u∉c0 →
  ∃ x' d,w1=x'++[v,u]∧run (x++[v],c0) l=some (x'++[v],d)∧(∀ y,y∈c1↔y∈d∨y=u)∧u∉d:=by
 intro l
 induction l with
 |nil=>intro x w1 c c1 c0 h _ hc hu;cases h;exact⟨x,c0,rfl,rfl,hc,hu⟩
 |cons t l ih=>
  intro x w1 c c1 c0 h hna hc hu
  rw[A1,AgR]at h
  obtain⟨s1,h1,h2⟩:=h
  have hna':Tok.arc v u∉l:=fun h=>hna (AgA _ h)
  rcases B0 h1 with⟨y,r,rfl,hw,rfl⟩|⟨a,b,r,rfl,hw,rfl⟩|⟨a,b,r,rfl,hw,hh,hnc,rfl⟩
  ·obtain⟨x',d,g1,g2,g3⟩:=ih h2 hna' hc hu
   refine⟨x',d,g1,?_,g3⟩
   simp only at hw
   have:∃ r',x++[v]=y::r':=by
    cases x with
    |nil=>simp at hw;exact⟨[],by simp[hw.1]⟩
    |cons z x=>simp at hw;exact⟨x++[v],by simp[hw.1]⟩
   obtain⟨r',e⟩:=this
   rw[A1,e,DG,AgS,← e]
   exact g2
  ·simp only at hw
   cases x with
   |nil=>
    simp only[AgJ,AgB]at hw
    obtain⟨rfl,rfl,_⟩:=hw
    exact absurd (by simp) hna
   |cons z x=>
    simp only[AgE,AgB]at hw
    obtain⟨rfl,hw⟩:=hw
    simp only[← hw]at h2
    obtain⟨x',d,g1,g2,g3⟩:=ih h2 hna' hc hu
    refine⟨x',d,g1,?_,g3⟩
    have:∃ r',x++[v]=b::r':=by
     cases x with
     |nil=>simp at hw;exact⟨[],by simp[hw.1]⟩
     |cons y x=>simp at hw;exact⟨x++[v],by simp[hw.1]⟩
    obtain⟨r',e⟩:=this
    rw[A1,AgE,e,GJ,AgS,← e]
    exact g2
  ·simp only at hw hnc
   have hub:u≠b:=by rintro rfl;exact hnc ((hc u).2 (.inr rfl))
   have hbc:b∉c0:=fun h=>hnc ((hc b).2 (.inl h))
   have h2':run ((b::x)++[v,u],b::c) l=some (w1,c1):=by
    rw[← hw]at h2
    exact h2
   obtain⟨x',d,g1,g2,g3⟩:=ih (c0:=b::c0) h2' hna' (fun y=>by simp only[Afr,hc,or_assoc]) (by
    intro hm
    rcases Afr.1 hm with h|h
    ·exact hub h
    ·exact hu h)
   refine⟨x',d,g1,?_,g3⟩
   have:∃ r',x++[v]=a::r'∧r'.head?≠some b:=by
    cases x with
    |nil=>
     simp at hw
     exact⟨[],by simp[hw.1],by simp⟩
    |cons z x=>
     simp only[AgE,AgB]at hw
     refine⟨x++[v],by simp[hw.1],?_⟩
     rw[← hw.2]at hh
     cases x with
     |nil=>simpa using hh
     |cons y x=>simpa using hh
   obtain⟨r',e,e2⟩:=this
   rw[A1,e,FI _ _ _ _ e2 hbc,AgS,← e]
   exact g2
theorem T.split{u v:Int}{p q:List Tok}(h:T (.arc u v::(p ++ .arc v u::q))):T p∧Tok.ver v∈p:=by
 have hn:=h.nodup
 obtain⟨_,f2,f3⟩:=h.facts
 have huv:u≠v:=(f3 u v (by simp)).2.2.2
 obtain⟨t,ht⟩:∃ t,(Tok.arc u v::(p ++ .arc v u::q)).getLast? = some t:=⟨_,AiB (by simp)⟩
 obtain⟨c,h1,h2⟩:=h.toC _ (Rot.refl _) t ht
 rw[A1,AgR]at h1
 obtain⟨s1,k1,k2⟩:=h1
 rcases B0 k1 with⟨y,r,e,hw,_⟩|⟨a,b,r,e,hw,_⟩|⟨a,b,r,e,hw,hh,hnc,rfl⟩
 ·cases e
 ·cases e;simp at hw
 ·cases e
  simp only[AgB]at hw
  obtain⟨htu,rfl⟩:=hw
  rw[htu]at k2
  simp only at k2
  rw[DK,AgR]at k2
  obtain⟨⟨w1,c1⟩,g1,g2⟩:=k2
  have hi:Inv ([v,u],[v,u]):=⟨by simp;exact Agb huv,by simp⟩
  obtain⟨i1,i2,_⟩:=IW g1 hi
  rw[AgG,Ahq,AgG (a:=Tok.arc v u)]at hn
  have hnp:Tok.arc v u∉p:=fun hm=>hn.2.2.2 _ hm _ (by simp) rfl
  obtain⟨x',d,e1,e2,e3,e4⟩:=AeX (x:=[]) (c0:=[v]) huv g1 hnp (fun y=>by simp) (by simp;exact huv)
  rw[A1,AgR]at g2
  obtain⟨s2,j1,j2⟩:=g2
  have hx':x'=[]∧s2=([u],c1):=by
   rcases B0 j1 with⟨y,r,e,hw,_⟩|⟨a,b,r,e,hw,hs⟩|⟨a,b,r,e,hw,hh,hnc,_⟩
   ·cases e
   ·cases e
    simp only at hw
    rw[e1]at hw
    cases x' with
    |nil=>
     simp only[AgJ,AgB,AhT]at hw
     rw[hs,← hw]
     exact⟨rfl,rfl⟩
    |cons z x'=>
     exfalso
     have hnd:=i1.1
     simp only at hnd
     rw[e1,hw]at hnd
     simp only[AgE,AgB]at hw
     have:v∈u::r:=by rw[← hw.2];simp
     rw[AgG]at hnd
     exact hnd.1 this
   ·cases e
    exact absurd (i2 u (by simp)) hnc
  obtain⟨rfl,rfl⟩:=hx'
  have hmet:∀ x∈d,Tok.ver x∈p:=by
   intro x hx
   have hxu:x≠u:=by rintro rfl;exact e4 hx
   have hx1:x∈c1:=(e3 x).2 (.inl hx)
   have hi2:Inv ([u],c1):=⟨by simp,fun y hy=>by simp at hy;subst hy;exact i2 y (by simp)⟩
   have hx2:=(IW j2 hi2).2.1 x hx1
   have hx3:=(h2 x).1 hx2
   obtain⟨g,_⟩:=YK (z:=x) (c:=c1.filter (·≠x)) j2 (by simp;exact hxu) (fun y=>by
    simp only[AgW,Afn]
    constructor
    ·intro hh
     by_cases e:y=x
     ·exact .inr e
     ·exact .inl ⟨hh,by simpa using e⟩
    ·rintro (hh|rfl)
     ·exact hh.1
     ·exact hx1) (by simp)
   simp only[Afr,reduceCtorEq,Afo,false_or]at hx3
   rcases hx3 with hh|hh
   ·exact hh
   ·exact absurd hh g
  have e2':run ([v],[v]) p=some ([v],d):=e2
  have hvd:v∈d:=(IW e2' (NY v)).2.1 v (by simp)
  exact⟨Adt e2' hmet hn.2.1,hmet v hvd⟩
end Go.Pev.Pl.Tok
end
section
namespace Go.Pev
open Go.RowKit
def ADe{R:Type}(slot:Nat)(H:List Ob)(fz:List Bool)(k:AV→Eff→Option R)(v:AV)(e:Eff):Option R:=
 match e.heap with
 |none=>match v with
  |.win id 0 n=>match(CX e H)[id]? with
   |some (.arr T t xs)=>match At (Fx e fz) id&&Ay (CX e H) (Fx e fz) (slot+3)&&(e.objs.any fun p=>Nat.beq p.1 id)with
    |true=>k (.own (slot+3)) { objs:=e.objs++[(id,.dead),(slot+3,.arr T t (Bi n xs))],frz:=e.frz }
    |false=>none
   |_=>none
  |_=>none
 |some _=>none
def JG(s:Spec):Spec:=fun R args H fz slot k=>s R args H fz slot (ADe slot H fz k)
section
variable {P:Program} {g:FuncId}
theorem AKU(a b:List (Nat×Ob)):∀ H,BF (a++b) H=BF b (BF a H):=by
 induction a with
 |nil=>intro H;rfl
 |cons p a ih=>intro H;obtain⟨i,o⟩:=p;simp only[AgE,BF];exact ih _
theorem AXV{w:World}{F:Nat→Prop}{m:Mp}{H:List Ob}{fz:List Bool}(hi:HI w F m H fz){id n slot:Nat}{T:TypeId}{t:Ty}{xs:List t.den}(ho:H[id]? = some (.arr T t xs))(hf:At fz id=true)
  (hs:Ay H fz slot=true) {u:Value} (hr:Rep w F m H (.win id 0 n) u) :
  ∃ m',A0 w F m H fz w F m' ((H.set id .dead).set slot (.arr T t (Bi n xs))) fz∧Rep w F m' ((H.set id .dead).set slot (.arr T t (Bi n xs))) (.own slot) u:=by
 have hob:=hi.obj id _ ho
 obtain⟨h0,hob⟩:=hob
 unfold Rep at hr
 rw[ho]at hr
 obtain⟨hle,hr⟩:=hr
 rw[Ago]at hle
 have hsn:slot≠id:=AIQ hs ho
 have hkill:=A0.kill hi (CG ho hf)
 have zero:∀ a,n=0→u = .slice a 0 0→∃ m',A0 w F m H fz w F m' ((H.set id .dead).set slot (.arr T t (Bi n xs))) fz∧Rep w F m' ((H.set id .dead).set slot (.arr T t (Bi n xs))) (.own slot) u:=by
  intro a hn hu
  subst hn;subst hu
  obtain⟨m',hg,hrep⟩:=DQ (w:=w) hkill.2 (KJ hs hsn) T h0 a
  exact⟨m',hkill.trans hg,hrep⟩
 cases hm:m id with
 |none=>
  rw[hm]at hr hob
  obtain⟨a,e1⟩:=hr
  simp only at hob
  subst hob
  have hn:n=0:=by simpa using hle
  exact zero a hn (by rw[e1,hn])
 |some p=>
  obtain⟨b,cap⟩:=p
  rw[hm]at hr hob
  obtain⟨vs,row,e1,e2,e3,e4,e7,e8⟩:=hob
  obtain⟨a,rfl,ha⟩:=hr
  rcases Ag3 cap with hc|hc
  ·have:n=0:=by omega
   exact zero a this (by rw[this,hc])
  ·have:=ha hc
   rw[AiE]at this
   subst this
   have hk:=fun(x:t.den) cs (h:Dat w F t x cs)=>Dat.length t h
   have hlen:(xs.take n).length=n:=by rw[Af4];omega
   have hrw:=EU hk n e7
   have hrl:=BG hk hrw
   rw[hlen]at hrl
   have hg:=A0.move (w':=w) hi (CG ho hf) hm hs (ob:=.arr T t (Bi n xs)) trivial (b':=b) (c':=cap) (.inl rfl) rfl rfl rfl (Afw _) (fun _ _ _=>rfl) (fun _=>⟨h0,vs,row.take (n*t.size),e1,by
    show(xs.take n).length≤cap
    rw[hlen];omega,e3,e4,hrw,by
    rw[hrl,← e8,Ahk,Agm]
    rw[BG hk e7]
    exact Agi _ hle⟩)
   refine⟨_,hg,?_⟩
   have hlts:=Ax (BW hs).1
   unfold Rep
   rw[BQ (by simpa using hlts),As]
   show Value.slice _ n (cap-0)=Value.slice _ (xs.take n).length cap
   rw[hlen,Nat.sub_zero]
theorem T1{s:Spec}(hs:AT P g s):AT P g (JG s):=by
 intro R args H fz slot k r hk
 obtain⟨v,e,h1,h2,h3,h4⟩:=hs R args H fz slot _ r hk
 unfold ADe at h1
 split at h1
 ·rename_i he
  split at h1
  ·rename_i id n
   split at h1
   ·rename_i T t xs ho
    split at h1
    ·rename_i hc
     refine⟨_,_,h1,fun R' k' => ?_,h3,fun w F m vals hi hr => ?_⟩
     ·unfold JG
      rw[h2]
      simp only[ADe,he,ho,hc]
     ·refine(h4 w F m vals hi hr).mono ?_
      rintro en w' ⟨u,rfl,F',m',hg,hrep⟩
      simp only[Afq]at hc
      obtain⟨m2,hg2,hr2⟩:=AXV hg.2 ho hc.1.1 hc.1.2 hrep
      have eH:CX { objs:=e.objs++[(id,.dead),(slot+3,.arr T t (Bi n xs))],frz:=e.frz } H=((CX e H).set id .dead).set (slot+3) (.arr T t (Bi n xs)):=by
       rw[CC rfl,CC he,AKU]
       rfl
      have eF:Fx { objs:=e.objs++[(id,.dead),(slot+3,.arr T t (Bi n xs))],frz:=e.frz } fz=Fx e fz:=by
       rw[CJ rfl,CJ he]
      refine⟨u,rfl,F',m2,?_,?_⟩
      ·rw[eH,eF];exact hg.trans hg2
      ·rw[eH];exact hr2
    ·cases h1
   ·cases h1
  ·cases h1
 ·cases h1
theorem VD{na:Nat}{its outs:AF}{rs:List RS}{f:CV (leaves its)→Option (CV (leaves outs))}(hf:∀ x,f x=none):AT P g (AG na its outs rs f):=by
 intro R args H fz slot k r hk
 unfold AG at hk
 split at hk
 ·cases hk
 ·split at hk
  ·cases hk
  ·rw[hf]at hk;cases hk
end
section
variable {S:List Nat} {H H':List Ob}
theorem HO.Afb{s:Spec}(h:HO s):NX s:=
 fun R args H H' fz fz' slot k S hS _ ha=>h R args H H' fz fz' slot k ⟨fun id hid=>ha.heap id (hS id hid),ha.slotH,ha.slotF,ha.len,fun id hid=>by cases hid⟩
def Zo:AF→Bool
 |[]=>true
 |(.obj _,_)::_=>false
 |_::r=>Zo r
def Aeb(S:List Nat)(v:AV):Prop:=∀ id∈Aw v,id∈S
def ABU(S:List Nat)(bs:List Bnd):Prop:=∀ b∈bs,∀ id,b.id? = some id→id∈S
theorem ABU.get{bs:List Bnd}(h:ABU S bs){j:Nat}{b:Bnd}{id:Nat}(hj:bs[j]? = some b)(hi:b.id? = some id):id∈S:=h b (Af3 hj) id hi
theorem ABU.snoc{bs:List Bnd}(h:ABU S bs){b:Bnd}(hb:∀ id,b.id? = some id→id∈S):ABU S (bs++[b]):=by
 intro x hx id hi
 rcases Afo.1 hx with hx|hx
 ·exact h x hx id hi
 ·simp only[AgF]at hx;subst hx;exact hb id hi
theorem AT0{tm:List AV}{bs:List Bnd}{l:Loc}(hS:∀ id∈BH tm,id∈S)(hc:XS S H)(hH:∀ id∈S,H[id]? = H'[id]?)(hb:ABU S bs)(hl:∀ j,l≠.obj j):
  look tm H bs l=look tm H' bs l∧∀ v,look tm H bs l=some v→Aeb S v:=by
 cases l with
 |tmp t=>
  refine⟨rfl,fun v hv id hid=>hS id ?_⟩
  exact CK (Af3 hv) hid
 |cell j c=>
  simp only[look]
  cases hj:bs[j]? with
  |none=>exact⟨rfl,fun v hv=>by cases hv⟩
  |some b=>
   cases b with
   |none=>exact⟨rfl,fun v hv=>by cases hv⟩
   |cut id=>exact⟨rfl,fun v hv=>by cases hv⟩
   |whole id=>
    have hid:=hb.get hj (id:=id) rfl
    simp only
    rw[hH id hid]
    refine⟨rfl,fun v hv => ?_⟩
    cases ho:H'[id]? with
    |none=>rw[ho]at hv;cases hv
    |some o=>
     rw[ho]at hv
     cases o<;>simp only at hv<;>first|(cases hv;done)|skip
     rename_i cs
     intro i hi
     exact hc id hid cs (by rw[hH id hid,ho]) i (CK (Af3 hv) hi)
 |cap t i=>
  refine⟨rfl,fun v hv => ?_⟩
  simp only[look]at hv
  cases ht:tm[t]? with
  |none=>rw[ht]at hv;cases hv
  |some a=>
   rw[ht]at hv
   cases a<;>simp only at hv<;>first|(cases hv;done)|skip
   ·rename_i f cs
    intro id hid
    refine hS id (CK (Af3 ht) ?_)
    simp only[Aw]
    exact CK (Af3 hv) hid
   ·rename_i f cs
    intro id hid
    refine hS id (CK (Af3 ht) ?_)
    simp only[Aw]
    exact CK (Af3 hv) hid
 |obj j=>exact absurd rfl (hl j)
theorem Jx{f:List Nat}{fz fz':List Bool}(hl:fz.length=fz'.length){id:Nat}(h:fz.getD id false=fz'.getD id false):(Ak f fz).getD id false=(Ak f fz').getD id false:=by
 rw[A4,A4,h,hl]
theorem Abp{tm:List AV}(hS:∀ id∈BH tm,id∈S)(hc:XS S H)(hH:∀ id∈S,H[id]? = H'[id]?):∀ (its:AF) (fz fz':List Bool) (bs:List Bnd),Zo its=true→ABU S bs→fz.length=fz'.length→(∀ id∈S,fz.getD id false=fz'.getD id false) →
  dec tm H its fz bs=dec tm H' its fz' bs:=by
 intro its
 induction its with
 |nil=>intro fz fz' bs _ _ _ _;rfl
 |cons p r ih=>
  intro fz fz' bs hn hb hlen hz
  obtain⟨l,c⟩:=p
  have hno:(∀ j,l≠.obj j)∧Zo r=true:=by
   cases l with
   |obj j=>cases hn
   |tmp t=>exact⟨fun j h=>(by cases h),hn⟩
   |cell a b=>exact⟨fun j h=>(by cases h),hn⟩
   |cap a b=>exact⟨fun j h=>(by cases h),hn⟩
  obtain⟨e1,e2⟩:=AT0 hS hc hH hb hno.1
  have ihr:=fun bs hb=>ih fz fz' bs hno.2 hb hlen hz
  have unf:∀ id∈S,At fz id=At fz' id:=fun id hid=>by unfold At;rw[hz id hid]
  cases c with
  |dat t=>
   simp only[dec,← e1]
   cases hv:look tm H bs l with
   |none=>rfl
   |some v=>
    simp only
    rw[Bf t v fun id hid=>hH id (e2 v hv id hid)]
    cases FG H' t v with
    |none=>rfl
    |some q=>
     obtain⟨x,f⟩:=q
     simp only
     rw[ih (Ak f fz) (Ak f fz') bs hno.2 hb (by rw[Cm,Cm,hlen]) (fun id hid=>Jx hlen (hz id hid))]
  |own T e=>
   simp only[dec,← e1]
   cases hv:look tm H bs l with
   |none=>rfl
   |some v=>
    cases v with
    |nils e'=>simp only;rw[ihr _ (hb.snoc fun id h=>by cases h)]
    |own id=>
     have hid:id∈S:=e2 _ hv id (by simp[Aw])
     simp only
     rw[← hH id hid,unf id hid,ihr _ (hb.snoc fun id' h=>by simp only[Bnd.id?,Afl]at h;subst h;exact hid)]
    |win id off n=>
     have hid:id∈S:=e2 _ hv id (by simp[Aw])
     cases off with
     |succ off=>rfl
     |zero=>
      simp only
      rw[← hH id hid,unf id hid,ihr _ (hb.snoc fun id' h=>by simp only[Bnd.id?,Afl]at h;subst h;exact hid)]
    |_=>rfl
  |box n=>
   simp only[dec,← e1]
   cases hv:look tm H bs l with
   |none=>rfl
   |some v=>
    cases v with
    |ptr id off=>
     have hid:id∈S:=e2 _ hv id (by simp[Aw])
     cases off with
     |succ off=>rfl
     |zero=>
      simp only
      rw[← hH id hid,ihr _ (hb.snoc fun id' h=>by simp only[Bnd.id?,Afl]at h;subst h;exact hid)]
    |_=>rfl
  |map k v=>
   simp only[dec,← e1]
   cases hv:look tm H bs l with
   |none=>rfl
   |some u=>
    cases u with
    |mp id=>
     have hid:id∈S:=e2 _ hv id (by simp[Aw])
     simp only
     rw[← hH id hid,ihr _ (hb.snoc fun id' h=>by simp only[Bnd.id?,Afl]at h;subst h;exact hid)]
    |_=>rfl
  |own' j=>simp only[dec,← e1,ihr bs hb]
  |ptr' j off=>simp only[dec,← e1,ihr bs hb]
  |map' j=>simp only[dec,← e1,ihr bs hb]
  |sub' j=>simp only[dec,← e1,ihr bs hb]
  |win' j=>
   simp only[dec,← e1]
   rw[ihr bs hb]
   cases hv:look tm H bs l with
   |none=>rfl
   |some v=>
    cases v with
    |own id=>
     have hid:id∈S:=e2 _ hv id (by simp[Aw])
     cases bs[j]? with
     |none=>rfl
     |some b=>
      cases b with
      |whole id'=>
       refine Eq.trans (b:=match decide (id=id'),H[id]? with
        |true,some (.arr _ _ ys)=>(match dec tm H' r fz' bs with
         |some (xs,bs',g)=>some ((AO ys,xs),bs',g)
         |none=>none)
        |_,_=>none) rfl ?_
       rw[hH id hid]
       rfl
      |_=>rfl
    |win id off n=>
     cases off with
     |succ off=>cases bs[j]?<;>rfl
     |zero=>
      cases bs[j]? with
      |none=>rfl
      |some b=>cases b<;>rfl
    |_=>cases bs[j]?<;>rfl
  |clo f ps=>simp only[dec,← e1,ihr bs hb]
  |bnd f j=>simp only[dec,← e1,ihr bs hb]
  |prs T j=>
   simp only[dec,← e1]
   cases hv:look tm H bs l with
   |none=>rfl
   |some v=>
    cases v with
    |nils e'=>simp only;rw[ihr _ (hb.snoc fun id h=>by cases h)]
    |own id=>
     have hid:id∈S:=e2 _ hv id (by simp[Aw])
     simp only
     rw[← hH id hid,ihr _ (hb.snoc fun id' h=>by simp only[Bnd.id?,Afl]at h;subst h;exact hid)]
    |_=>rfl
  |nil e=>simp only[dec,← e1,ihr bs hb]
theorem QR{fz fz':List Bool}:∀ (n:Nat) (bs:List Bnd) (slot:Nat),(∀ s,slot≤s→s<slot+n→Ay H fz s=Ay H' fz' s)→FH H fz (Bu n bs slot) bs=FH H' fz' (Bu n bs slot) bs:=by
 intro n
 induction n with
 |zero=>intro bs slot _;cases bs<;>rfl
 |succ n ih=>
  intro bs slot h
  cases bs with
  |nil=>
   simp only[Bu,FH,List.tail_nil]
   rw[h slot (Afw _) (by omega),ih [] (slot+1) fun s h1 h2=>h s (by omega) (by omega)]
  |cons b bs=>
   cases b with
   |whole id=>
    simp only[Bu,FH,Ahl]
    rw[ih bs slot fun s h1 h2=>h s h1 (by omega)]
   |none=>
    simp only[Bu,FH,Ahl]
    rw[h slot (Afw _) (by omega),ih bs (slot+1) fun s h1 h2=>h s (by omega) (by omega)]
   |cut id=>
    simp only[Bu,FH,Ahl]
    rw[h slot (Afw _) (by omega),ih bs (slot+1) fun s h1 h2=>h s (by omega) (by omega)]
theorem AL{na:Nat}{its outs:AF}{rs:List RS}{f:CV (leaves its)→Option (CV (leaves outs))}(hno:Zo its=true)(hn:Nat.ble (CM outs) 4=true):NX (AG na its outs rs f):=by
 intro R args H H' fz fz' slot k S hS hc ha
 have hn4:=AiG hn
 have hd:dec args H its fz []=dec args H' its fz' []:=Abp hS hc ha.heap its fz fz' [] hno (fun b hb=>by cases hb) ha.len ha.wrF
 unfold AG
 rw[hd]
 split
 ·rfl
 ·rename_i x bs fr _
  split
  ·rfl
  ·split
   ·rfl
   ·have hf:∀ (g:List Nat) s,slot≤s→s<slot+CM outs→Ay H (Ak g fz) s=Ay H' (Ak g fz') s:=fun g s h1 h2=>Df ha h1 (by omega) g
    unfold MT
    rw[QR (fz:=fz) (fz':=fz') (CM outs) bs slot (hf []),QR (fz:=Ak fr fz) (fz':=Ak fr fz') (CM outs) bs slot (hf fr)]
theorem AW5:∀ (n:Nat) (bs:List Bnd) (slot i:Nat),i∈Bu n bs slot→(∃ b∈bs,b.id? = some i)∨(slot≤i∧i<slot+n):=by
 intro n
 induction n with
 |zero=>intro bs slot i h;cases bs<;>cases h
 |succ n ih=>
  intro bs slot i h
  have next:∀ bs',i∈slot::Bu n bs' (slot+1)→(∃ b∈bs',b.id? = some i)∨(slot≤i∧i<slot+(n+1)):=by
   intro bs' h
   rcases Afr.1 h with rfl|h
   ·exact .inr ⟨Afw _,by omega⟩
   ·rcases ih bs' (slot+1) i h with h|h
    ·exact .inl h
    ·exact .inr ⟨by omega,by omega⟩
  cases bs with
  |nil=>exact next [] h
  |cons b bs=>
   cases b with
   |whole id=>
    simp only[Bu]at h
    rcases Afr.1 h with rfl|h
    ·exact .inl ⟨.whole i,by simp,rfl⟩
    ·rcases ih bs slot i h with⟨b,hb,e⟩|h
     ·exact .inl ⟨b,by simp[hb],e⟩
     ·exact .inr ⟨h.1,by omega⟩
   |none=>rcases next bs h with⟨b,hb,e⟩|h;exact .inl ⟨b,by simp[hb],e⟩;exact .inr h
   |cut id=>rcases next bs h with⟨b,hb,e⟩|h;exact .inl ⟨b,by simp[hb],e⟩;exact .inr h
theorem AXp{tm:List AV}(hS:∀ id∈BH tm,id∈S)(hc:XS S H):∀ (its:AF) (fz:List Bool) (bs:List Bnd) (x:CV (leaves its)) (bs':List Bnd) (fr:List Nat),Zo its=true→ABU S bs →
  dec tm H its fz bs=some (x,bs',fr)→ABU S bs':=by
 intro its
 induction its with
 |nil=>intro fz bs x bs' fr _ hb h;simp only[dec,Afl]at h;cases h;exact hb
 |cons p r ih=>
  intro fz bs x bs' fr hn hb h
  obtain⟨l,c⟩:=p
  have hno:(∀ j,l≠.obj j)∧Zo r=true:=by
   cases l with
   |obj j=>cases hn
   |tmp t=>exact⟨fun j h=>(by cases h),hn⟩
   |cell a b=>exact⟨fun j h=>(by cases h),hn⟩
   |cap a b=>exact⟨fun j h=>(by cases h),hn⟩
  have e2:=(AT0 (H':=H) hS hc (fun _ _=>rfl) hb hno.1 (l:=l)).2
  have one:∀ {id:Nat} {b:Bnd},id∈S→b.id? = some id→ABU S (bs++[b]):=fun hid hbid=>hb.snoc fun id' h'=>by rw[hbid]at h';cases h';exact hid
  cases c<;>simp only[dec]at h
  case dat t=>
   split at h
   ·split at h
    ·split at h
     ·split at h
      ·rename_i hd;cases h;exact ih _ _ _ _ _ hno.2 hb hd
      ·cases h
     ·cases h
    ·cases h
   ·cases h
  case own T e=>
   split at h
   ·split at h
    ·split at h
     ·rename_i hd;cases h;exact ih _ _ _ _ _ hno.2 (hb.snoc fun id h=>by cases h) hd
     ·cases h
    ·cases h
   ·rename_i id hl
    split at h
    ·split at h
     ·split at h
      ·rename_i hd;cases h;exact ih _ _ _ _ _ hno.2 (one (e2 _ hl id (by simp[Aw])) rfl) hd
      ·cases h
     ·cases h
    ·cases h
   ·rename_i id n hl
    split at h
    ·split at h
     ·split at h
      ·rename_i hd;cases h;exact ih _ _ _ _ _ hno.2 (one (e2 _ hl id (by simp[Aw])) rfl) hd
      ·cases h
     ·cases h
    ·cases h
   ·cases h
  case prs T j=>
   split at h
   ·split at h
    ·rename_i hd;cases h;exact ih _ _ _ _ _ hno.2 (hb.snoc fun id h=>by cases h) hd
    ·cases h
   ·rename_i id hl
    split at h
    ·split at h
     ·split at h
      ·rename_i hd;cases h;exact ih _ _ _ _ _ hno.2 (one (e2 _ hl id (by simp[Aw])) rfl) hd
      ·cases h
     ·cases h
    ·cases h
   ·cases h
  case box n=>
   split at h
   ·rename_i id hl
    split at h
    ·split at h
     ·exact ih _ _ _ _ _ hno.2 (one (e2 _ hl id (by simp[Aw])) rfl) h
     ·cases h
    ·cases h
   ·cases h
  case map k v=>
   split at h
   ·rename_i id hl
    split at h
    ·split at h
     ·split at h
      ·rename_i hd;cases h;exact ih _ _ _ _ _ hno.2 (one (e2 _ hl id (by simp[Aw])) rfl) hd
      ·cases h
     ·cases h
    ·cases h
   ·cases h
  case own' j=>
   split at h
   ·split at h
    ·exact ih _ _ _ _ _ hno.2 hb h
    ·cases h
   ·cases h
  case ptr' j off=>
   split at h
   ·split at h
    ·exact ih _ _ _ _ _ hno.2 hb h
    ·cases h
   ·cases h
  case map' j=>
   split at h
   ·split at h
    ·exact ih _ _ _ _ _ hno.2 hb h
    ·cases h
   ·cases h
  case win' j=>
   split at h
   ·split at h
    ·split at h
     ·rename_i hd;cases h;exact ih _ _ _ _ _ hno.2 hb hd
     ·cases h
    ·cases h
   ·split at h
    ·split at h
     ·rename_i hd;cases h;exact ih _ _ _ _ _ hno.2 hb hd
     ·cases h
    ·cases h
   ·cases h
  case sub' j=>
   split at h
   ·split at h
    ·split at h
     ·rename_i hd;cases h;exact ih _ _ _ _ _ hno.2 hb hd
     ·cases h
    ·cases h
   ·cases h
  case clo f ps=>
   split at h
   ·split at h
    ·exact ih _ _ _ _ _ hno.2 hb h
    ·cases h
   ·cases h
  case bnd f j=>
   split at h
   ·split at h
    ·exact ih _ _ _ _ _ hno.2 hb h
    ·cases h
   ·cases h
  case nil e=>
   cases hv:look tm H bs l with
   |none=>rw[hv]at h;cases h
   |some v=>
    rw[hv]at h
    cases v<;>simp only at h<;>first|exact ih _ _ _ _ _ hno.2 hb h|cases h
theorem ATO{na:Nat}{its outs:AF}{rs:List RS}{f:CV (leaves its)→Option (CV (leaves outs))}(hno:Zo its=true)(hn:Nat.ble (CM outs) 4=true):NX (JG (AG na its outs rs f)):=by
 intro R args H H' fz fz' slot k hS0 hS hc ha
 have hn4:=AiG hn
 have hd:dec args H its fz []=dec args H' its fz' []:=Abp hS hc ha.heap its fz fz' [] hno (fun b hb=>by cases hb) ha.len ha.wrF
 have hbs:∀ x bs fr,dec args H its fz []=some (x,bs,fr)→ABU hS0 bs:=fun x bs fr h=>AXp hS hc its fz [] x bs fr hno (fun b hb=>by cases hb) h
 unfold JG AG
 rw[hd]at hbs ⊢
 split
 ·rfl
 ·rename_i x bs fr hdec
  have hb:=hbs x bs fr hdec
  split
  ·rfl
  ·split
   ·rfl
   ·rename_i y _
    have hf:∀ (g:List Nat) s,slot≤s→s<slot+CM outs→Ay H (Ak g fz) s=Ay H' (Ak g fz') s:=fun g s h1 h2=>Df ha h1 (by omega) g
    have key:∀ (e:Eff) (v:AV),e.heap=none→(∀ p∈e.objs,p.1∈Bu (CM outs) bs slot)→ADe slot H fz k v e=ADe slot H' fz' k v e:=by
     intro e v he ho
     unfold ADe
     rw[he]
     simp only
     have hfree:Ay (CX e H) (Fx e fz) (slot+3)=Ay (CX e H') (Fx e fz') (slot+3):=by
      rw[CC he,CC he,CJ he,CJ he]
      unfold Ay
      rw[F7 e.objs H H' (ha.slotH (slot+3) (by omega) (by omega)),Jx ha.len (ha.slotF (slot+3) (by omega) (by omega))]
     cases v with
     |win id off n=>
      cases off with
      |succ off=>rfl
      |zero=>
       simp only
       cases hany:(e.objs.any fun p=>Nat.beq p.1 id)with
       |false=>
        simp only[Ahz]
        cases (CX e H)[id]? with
        |none=>cases (CX e H')[id]? with
         |none=>rfl
         |some o=>cases o<;>rfl
        |some o=>cases (CX e H')[id]? with
         |none=>cases o<;>rfl
         |some o'=>cases o<;>cases o'<;>rfl
       |true=>
        rw[AhL]at hany
        obtain⟨p,hp,hpi⟩:=hany
        have hpi:=Agy hpi
        subst hpi
        have hin:=AW5 _ _ _ _ (ho p hp)
        have h1:H[p.1]? = H'[p.1]? := by
         rcases hin with⟨b,hbm,hbi⟩|⟨h1,h2⟩
         ·exact ha.heap _ (hb b hbm _ hbi)
         ·exact ha.slotH _ h1 (by omega)
        have h2:fz.getD p.1 false=fz'.getD p.1 false:=by
         rcases hin with⟨b,hbm,hbi⟩|⟨h1,h2⟩
         ·exact ha.wrF _ (hb b hbm _ hbi)
         ·exact ha.slotF _ h1 (by omega)
        have h3:(CX e H)[p.1]? = (CX e H')[p.1]? := by
         rw[CC he,CC he]
         exact F7 e.objs H H' h1
        have h4:At (Fx e fz) p.1=At (Fx e fz') p.1:=by
         rw[CJ he,CJ he]
         unfold At
         rw[Jx ha.len h2]
        rw[h3,h4,hfree]
     |_=>rfl
    unfold MT
    rw[QR (fz:=fz) (fz':=fz') (CM outs) bs slot (hf []),QR (fz:=Ak fr fz) (fz':=Ak fr fz') (CM outs) bs slot (hf fr)]
    split
    ·split
     ·exact key { objs:=_ } _ rfl fun p hp=>(List.of_mem_zip hp).1
     ·rfl
    ·split
     ·exact key { objs:=_,frz:=_ } _ rfl fun p hp=>(List.of_mem_zip hp).1
     ·rfl
end
def AfV(i:Nat)(args:List AV):Option FuncId:=
 match args[i]? with
 |some (.clo f _)=>some f
 |some (.bnd f _)=>some f
 |_=>none
def Env.Ez(E:Env)(g:FuncId)(i:Nat)(c:FuncId)(s:Spec):Env where
 spec x:=match Nat.beq x g with
  |true=>fun R args H fz slot k=>match AfV i args with
   |some c'=>match Nat.beq c' c with
    |true=>s R args H fz slot k
    |false=>E.spec x R args H fz slot k
   |.none=>Option.none
  |false=>E.spec x
 loc x:=match Nat.beq x g with
  |true=>false
  |false=>E.loc x
 loc2 x:=match Nat.beq x g with
  |true=>E.loc2 g
  |false=>E.loc2 x
theorem Env.Bb{P:Program}{E:Env}{g:FuncId}{i:Nat}{c:FuncId}{s:Spec}(h:Ac P E)(hs:AT P g s)(hl2:NX s):Ac P (E.Ez g i c s):=by
 refine⟨?_,?_,?_⟩
 ·intro x
  simp only[Env.Ez]
  cases hx:Nat.beq x g with
  |false=>exact h.1 x
  |true=>
   have:=Agy hx
   subst this
   intro R args H fz slot k r hk
   simp only at hk
   split at hk
   ·rename_i c' hc'
    split at hk
    ·rename_i hb
     obtain⟨v,e,h1,h2,h3,h4⟩:=hs R args H fz slot k r hk
     exact⟨v,e,h1,fun R' k'=>by simp only[hc',hb];exact h2 R' k',h3,h4⟩
    ·rename_i hb
     obtain⟨v,e,h1,h2,h3,h4⟩:=h.1 x R args H fz slot k r hk
     exact⟨v,e,h1,fun R' k'=>by simp only[hc',hb];exact h2 R' k',h3,h4⟩
   ·cases hk
 ·intro x hx
  simp only[Env.Ez]at hx ⊢
  cases hb:Nat.beq x g with
  |true=>rw[hb]at hx;cases hx
  |false=>rw[hb]at hx;exact h.2.1 x hx
 ·intro x hx
  simp only[Env.Ez]at hx ⊢
  cases hb:Nat.beq x g with
  |true=>
   rw[hb]at hx
   have:=Agy hb
   subst this
   have h2:=h.2.2 x hx
   intro R args H H' fz fz' slot k S a1 a2 a3
   simp only
   split
   ·split
    ·exact hl2 R args H H' fz fz' slot k S a1 a2 a3
    ·exact h2 R args H H' fz fz' slot k S a1 a2 a3
   ·rfl
  |false=>rw[hb]at hx;exact h.2.2 x hx
end Go.Pev
end
section
namespace Go.Pev
open Go.RowKit Go.ChangeShapes Go.WideShapes Go.ChangeAt
def OH(P:Program)(rd:TypeId→Option Ty):List Field→Nat→Option Ty
 |[],_=>some .unit
 |f::r,off=>match rd f.type,OH P rd r (off+P.cellsOf f.type)with
  |some a,some b=>match Nat.beq f.offset off&&Nat.beq (P.cellsOf f.type) a.size with
   |true=>some (.prod a b)
   |false=>none
  |_,_=>none
def Gj(P:Program):Nat→TypeId→Option Ty
 |0,_=>none
 |n+1,t=>match P.underlying t with
  |some .bool=>some .bool
  |some (.int k)=>some (.int k)
  |some (.slice e)=>match Gj P n e with
   |some a=>match Nat.beq (P.cellsOf e) a.size && !(Nat.beq a.size 0)with
    |true=>some (.slice a)
    |false=>none
   |none=>none
  |some (.array c e)=>match Gj P n e with
   |some a=>match Nat.beq (P.cellsOf e) a.size&&Nat.beq (P.cellsOf t) (c*a.size)with
    |true=>some (.arr c a)
    |false=>none
   |none=>none
  |some (.struct fs)=>match OH P (Gj P n) fs.toList 0 with
   |some a=>match Nat.beq (P.cellsOf t) a.size with
    |true=>some a
    |false=>none
   |none=>none
  |_=>none
def wfD:(t:Ty)→t.den→Prop
 |.unit,_=>True
 |.bool,_=>True
 |.int k,n=>k.min≤n∧n≤k.max
 |.slice e,xs=>List.length (α:=e.den) xs≤maxLen∧∀ x∈(xs:List e.den),wfD e x
 |.prod a b,d=>wfD a d.1∧wfD b d.2
 |.arr n e,xs=>List.length (α:=e.den) xs=n∧∀ x∈(xs:List e.den),wfD e x
section
variable {H:Type} {enc:TypeId×Value→H} {P:Program} {w:World} {spare:Nat→Bool} {held:Bool}
abbrev below(w:World):Nat→Prop:=fun b=>b<w.heap.size
theorem AeT{k:IntKind}{n:Int}(h:(Lit.int k n).wf=true):k.min≤n∧n≤k.max:=by
 simpa [Lit.wf]using h
theorem ATT{α:Type}{R:α→List Value→Prop}{k:Nat}:∀ (m:Nat) (f:Nat→List Value),(∀ i,i<m→(f i).length=k∧∃ x,R x (f i))→∃ xs:List α,xs.length=m∧rows R xs ((List.range m).flatMap f)∧∀ x∈xs,∃ i,i<m∧R x (f i):=by
 intro m
 induction m with
 |zero=>intro f _;exact⟨[],rfl,rfl,fun x hx=>by cases hx⟩
 |succ m ih=>
  intro f h
  obtain⟨xs,h1,h2,h3⟩:=ih f fun i hi=>h i (by omega)
  obtain⟨_,x,hx⟩:=h m (by omega)
  refine⟨xs++[x],by simp[h1],?_,fun y hy => ?_⟩
  ·rw[Agz,Ah4]
   exact LU h2 (by simp;exact⟨f m,[],by simp,hx,rfl⟩)
  ·rcases Afo.1 hy with hy|hy
   ·obtain⟨i,hi,hr⟩:=h3 y hy;exact⟨i,by omega,hr⟩
   ·simp only[AgF]at hy;subst hy;exact⟨m,by omega,hx⟩
theorem Abc{f:Nat→List Value}{k:Nat}:∀ (m:Nat),(∀ i,i<m→(f i).length=k)→∀ (j:Nat) (u:Value),((List.range m).flatMap f)[j]? = some u→∃ i r,i<m∧r<k∧j=i*k+r∧(f i)[r]? = some u:=by
 intro m
 induction m with
 |zero=>intro _ j u h;simp at h
 |succ m ih=>
  intro hl j u h
  rw[Agz,Ah4]at h
  have hlen:∀ m',m'≤m→((List.range m').flatMap f).length=m'*k:=by
   intro m' hm'
   induction m' with
   |zero=>simp
   |succ m' ih'=>
    rw[Agz,Ah4,Afs,ih' (by omega)]
    simp[hl m' (by omega),Agu]
  rcases Agn j (m*k)with hj|hj
  ·rw[AgO (by rw[hlen m (Afw _)];exact hj)]at h
   obtain⟨i,r,h1,h2,h3,h4⟩:=ih (fun i hi=>hl i (by omega)) j u h
   exact⟨i,r,by omega,h2,h3,h4⟩
  ·rw[AgV (by rw[hlen m (Afw _)];exact hj),hlen m (Afw _)]at h
   simp only[Ag5,List.flatMap_nil,Agw]at h
   have hr:j-m*k<k:=by
    have:=EG h
    rwa [hl m (by omega)]at this
   exact⟨m,j-m*k,by omega,hr,by omega,h⟩
theorem Ab6(a:Addr)(i j:Nat):(a.add i).add j=a.add (i+j):=by
 unfold Addr.add
 by_cases hi:i=0
 ·subst hi;simp
 ·by_cases hj:j=0
  ·subst hj;simp
  ·have:¬ (i+j=0):=by omega
   simp[hi,hj,Aig]
theorem ASo{α:Type}[Inhabited α]{n:Nat}{p:Nat→α→Prop}(h:∀ i,i<n→∃ x,p i x):∃ f:Nat→α,∀ i,i<n→p i (f i):=by
 classical
 refine⟨fun i=>if hi:i<n then Classical.choose (h i hi)else default,fun i hi => ?_⟩
 simp only[dif_pos hi]
 exact Classical.choose_spec (h i hi)
theorem APf{rd:TypeId→Option Ty}{cs:List Value}(hrd:∀ (f:Field) (a:Ty),rd f.type=some a→(P.cellsOf f.type=a.size)→(∃ y:Nat×(DataW H×List MemPlace),DataW.trod enc P w 0 spare held y.1 f.type ((cs.drop f.offset).take (P.cellsOf f.type))=some y.2)→∃ d:a.den,Dat w (below w) a d ((cs.drop f.offset).take (P.cellsOf f.type))∧wfD a d):
  ∀ (fs:List Field) (off:Nat) (t:Ty),OH P rd fs off=some t→off+t.size=cs.length→(∀ f∈fs,∃ y:Nat×(DataW H×List MemPlace),DataW.trod enc P w 0 spare held y.1 f.type ((cs.drop f.offset).take (P.cellsOf f.type))=some y.2) →
   ∃ d:t.den,Dat w (below w) t d (cs.drop off)∧wfD t d:=by
 intro fs
 induction fs with
 |nil=>
  intro off t h hl _
  simp only[OH,Afl]at h
  subst h
  refine⟨(),?_,trivial⟩
  show cs.drop off=[]
  simp[Ty.size]at hl
  exact List.drop_eq_nil_of_le (by omega)
 |cons f r ih=>
  intro off t h hl hf
  simp only[OH]at h
  split at h
  ·rename_i a b ha hb
   split at h
   ·rename_i hc
    simp only[Afl]at h
    subst h
    simp only[Afq]at hc
    have h1:=Agy hc.1
    have h2:=Agy hc.2
    obtain⟨d,hd,hw⟩:=hrd f a ha h2 (hf f (by simp))
    simp only[Ty.size]at hl
    obtain⟨e,he,hw'⟩:=ih (off+P.cellsOf f.type) b hb (by omega) fun g hg=>hf g (by simp[hg])
    refine⟨(d,e),⟨(cs.drop off).take (P.cellsOf f.type),cs.drop (off+P.cellsOf f.type),?_,?_,he⟩,hw,hw'⟩
    ·rw[← AhO,Agc]
    ·rw[h1]at hd;exact hd
   ·cases h
  ·cases h
theorem AYT:∀ (n:Nat) (t:TypeId) (ty:Ty) (fuel:Nat) (cs:List Value) (x:DataW H×List MemPlace),Gj P n t=some ty→DataW.trod enc P w 0 spare held fuel t cs=some x→∃ d:ty.den,Dat w (below w) ty d cs∧wfD ty d:=by
 intro n
 induction n with
 |zero=>intro t ty fuel cs x h;cases h
 |succ n ih=>
  intro t ty fuel cs x h hx
  simp only[Gj]at h
  split at h
  ·rename_i hu
   simp only[Afl]at h;subst h
   obtain⟨b,rfl,_⟩:=DataW.trod_bool hu hx
   exact⟨b,rfl,trivial⟩
  ·rename_i k hu
   simp only[Afl]at h;subst h
   obtain⟨m,rfl,_,hw⟩:=DataW.trod_int hu hx
   exact⟨m,rfl,AeT hw⟩
  ·rename_i e hu
   split at h
   ·rename_i a ha
    split at h
    ·rename_i hc
     simp only[Afl]at h;subst h
     rw[Afq]at hc
     have hpos:a.size≠0:=fun h0=>by rw[h0]at hc;simp at hc
     have hc:=Agy hc.1
     rcases DataW.trod_slice hu hx with⟨rfl,_⟩|⟨ad,len,cap,elems,rest,m,rfl,rfl,_,_,hle,hmax,hlen,hel,_⟩
     ·exact⟨[],⟨none,0,rfl,Afw _,fun hne=>absurd rfl hne⟩,Ah9 _,fun x hx=>by cases hx⟩
     ·-- each element
      have each:∀ i,i<len→∃ cs',w.cells? 0 (ad.add (i*P.cellsOf e)) (P.cellsOf e)=some cs'∧∃ d:a.den,Dat w (below w) a d cs'∧wfD a d:=by
       intro i hi
       have h1:=hel i hi
       rw[Afp (by omega),AgR]at h1
       obtain⟨cs',h2,h3⟩:=h1
       exact⟨cs',h2,ih e a m cs' _ ha h3⟩
      obtain⟨f,hf⟩:=ASo (α:=List Value) (p:=fun i cs'=>w.cells? 0 (ad.add (i*P.cellsOf e)) (P.cellsOf e)=some cs'∧∃ d:a.den,Dat w (below w) a d cs'∧wfD a d) each
      have hfl:∀ i,i<len→(f i).length=a.size:=by
       intro i hi
       obtain⟨_,hl,_⟩:=World.cells?_some (hf i hi).1
       rw[hl,hc]
      obtain⟨xs,h1,h2,h3⟩:=ATT (R:=fun(d:a.den) cs=>Dat w (below w) a d cs∧wfD a d) (k:=a.size) len f fun i hi=>⟨hfl i hi,(hf i hi).2⟩
      refine⟨xs,⟨some ad,cap,by rw[h1],by rw[h1];exact hle,fun hne=>⟨ad,(List.range len).flatMap f,rfl,?_,BP (fun x _ cs hx=>hx.1) h2,fun j u hu => ?_⟩⟩,by rw[h1];exact Ag2 hle hmax,fun x hx => ?_⟩
      ·-- the block is there
       have hl0:0<len:=by
        rcases Ag3 len with h0|h0
        ·exact absurd (AgL (by rw[h1,h0])) hne
        ·exact h0
       have hb:=World.cells?_block (hf 0 hl0).1 (by omega)
       rw[AiE]at hb
       have e0:ad.add 0=ad:=by simp[Addr.add]
       rw[e0]at hb
       exact hb
      ·obtain⟨i,r,hi,hr,rfl,hur⟩:=Abc len hfl j u hu
       obtain⟨_,_,hcell⟩:=World.cells?_some (hf i hi).1
       have:=hcell r (by rw[hc];exact hr)
       rw[hur]at this
       rw[← this,hc,Ab6]
      ·obtain⟨i,_,hr⟩:=h3 x hx
       exact hr.2
    ·cases h
   ·cases h
  ·rename_i c e hu
   split at h
   ·rename_i a ha
    split at h
    ·rename_i hc
     simp only[Afl]at h;subst h
     rw[Afq]at hc
     have hc1:=Agy hc.1
     have hc2:=Agy hc.2
     obtain⟨xs,m,rfl,_,hl,hxs,hfs⟩:=DataW.trod_array hu hx
     rw[hc2]at hl
     obtain⟨ys,h1,h2,h3⟩:=ATT (R:=fun(d:a.den) cs=>Dat w (below w) a d cs∧wfD a d) (k:=a.size) c (fun i=>(cs.drop (i*a.size)).take a.size) fun i hi=>by
      have hi1:i*a.size+a.size≤c*a.size:=by
       have:=Agi a.size (show i+1≤c from hi)
       rwa [Agu,AhN]at this
      have h1:=hfs i hi
      rw[Afp (by omega),hc1]at h1
      exact⟨by rw[Af4,AgK,hl];omega,ih e a m _ _ ha h1⟩
     have hjoin:∀ k,k≤c→(List.range k).flatMap (fun i=>(cs.drop (i*a.size)).take a.size)=cs.take (k*a.size):=by
      intro k
      induction k with
      |zero=>intro _;simp
      |succ k ihk=>
       intro hk
       rw[Agz,Ah4,ihk (by omega),Agu,AhN,List.take_add]
       simp
     rw[hjoin c (Afw _),← hl,Ags]at h2
     exact⟨ys,⟨h1,BP (fun x _ cs hx=>hx.1) h2⟩,h1,fun x hx=>by obtain⟨i,_,hr⟩:=h3 x hx;exact hr.2⟩
    ·cases h
   ·cases h
  ·rename_i fs hu
   split at h
   ·rename_i a ha
    split at h
    ·rename_i hc
     simp only[Afl]at h;subst h
     have hc:=Agy hc
     obtain⟨xs,m,rfl,_,hl,hxs,hfs⟩:=DataW.trod_struct hu hx
     obtain⟨d,hd,hw⟩:=APf (enc:=enc) (w:=w) (spare:=spare) (held:=held) (cs:=cs) (fun f b hb _ ⟨y,hy⟩=>ih f.type b y.1 _ y.2 hb hy) fs.toList 0 _ ha (by rw[hl,hc];omega) (fun f hf=>by
      obtain⟨i,hi⟩:=List.getElem?_of_mem hf
      have h1:=hfs i f (by simpa using hi)
      have hlt:i<xs.length:=by rw[hxs];simpa using EG hi
      rw[Afp hlt]at h1
      exact⟨(m,xs[i]),h1⟩)
     rw[Ahj]at hd
     exact⟨d,hd,hw⟩
    ·cases h
   ·cases h
  ·cases h
theorem AQn{r:Reach}{b0:Nat}{t:TypeId}{v:Value}(hval:Value.okWide P w r b0 t v)(hn:∀ d,P.underlying t=some d→(match d with|.bool|.int _|.slice _=>true|_=>false)=true){ty:Ty}{n:Nat}(h:Gj P (n+1) t=some ty):v.cells.toList=[v]:=by
 simp only[Value.okWide]at hval
 have hu:∃ d,P.underlying t=some d:=by
  cases hu:P.underlying t with
  |none=>simp only[Gj,hu]at h;cases h
  |some d=>exact⟨d,rfl⟩
 obtain⟨d,hu⟩:=hu
 have:=hn d hu
 rw[hu]at hval
 cases d<;>simp only[Afz]at this<;>simp only[Cell.okWide,hu]at hval<;>cases v<;>first|rfl|(simp_all [Cell.ok])
theorem AJu{r:Reach}{b0:Nat}{t:TypeId}{v:Value}{ps:List MemPlace}{dd:DataW H}(hval:Value.okWide P w r b0 t v)(hd:DataW.Trod enc P w 0 spare held t v dd ps){ty:Ty}{n:Nat}(h:Gj P (n+1) t=some ty):
  ∃ d:ty.den,Bm w (below w) ty d v∧wfD ty d:=by
 obtain⟨fuel,hf⟩:=hd
 obtain⟨d,h1,h2⟩:=AYT (n+1) t ty fuel _ _ h hf
 refine⟨d,?_,h2⟩
 have one:(∀ d,P.underlying t=some d→(match d with|.bool|.int _|.slice _=>true|_=>false)=true)→ty.isAgg=false→Bm w (below w) ty d v:=by
  intro hn hg
  unfold Bm
  rw[hg]
  rw[AQn hval hn h]at h1
  exact h1
 have agg:(∃ cs,v = .agg cs)→ty.isAgg=true→Bm w (below w) ty d v:=by
  rintro⟨cs,rfl⟩ hg
  unfold Bm
  rw[hg]
  exact⟨cs,rfl,h1⟩
 have hu:∃ d,P.underlying t=some d:=by
  cases hu:P.underlying t with
  |none=>simp only[Gj,hu]at h;cases h
  |some d=>exact⟨d,rfl⟩
 obtain⟨td,hu⟩:=hu
 simp only[Gj,hu]at h
 split at h
 ·rename_i hq;cases hq;simp only[Afl]at h;subst h
  exact one (fun d hd=>by rw[hu]at hd;cases hd;rfl) rfl
 ·rename_i k hq;cases hq;simp only[Afl]at h;subst h
  exact one (fun d hd=>by rw[hu]at hd;cases hd;rfl) rfl
 ·rename_i e hq;cases hq
  split at h
  ·split at h
   ·simp only[Afl]at h;subst h
    exact one (fun d hd=>by rw[hu]at hd;cases hd;rfl) rfl
   ·cases h
  ·cases h
 ·rename_i c e hq;cases hq
  have hv:∃ cs,v = .agg cs:=by
   simp only[Value.okWide,hu]at hval
   obtain⟨cs,rfl,_⟩:=hval
   exact⟨cs,rfl⟩
  split at h
  ·split at h
   ·simp only[Afl]at h;subst h
    exact agg hv rfl
   ·cases h
  ·cases h
 ·rename_i fs hq;cases hq
  have hv:∃ cs,v = .agg cs:=by
   simp only[Value.okWide,hu]at hval
   obtain⟨cs,rfl,_⟩:=hval
   exact⟨cs,rfl⟩
  split at h
  ·rename_i a ha
   split at h
   ·simp only[Afl]at h;subst h
    refine agg hv ?_
    cases hfs:fs.toList with
    |nil=>rw[hfs]at ha;simp only[OH,Afl]at ha;subst ha;rfl
    |cons f r=>
     rw[hfs]at ha
     simp only[OH]at ha
     split at ha
     ·split at ha
      ·simp only[Afl]at ha;subst ha;rfl
      ·cases ha
     ·cases ha
   ·cases h
  ·cases h
 ·cases h
theorem ADJ{g:FuncId}{s:Spec}(hs:AT P g s){args:List AV}{b:Bool}{e:Eff}(hrun:s (AV×Eff) args [] [] 0 (fun v e=>some (v,e))=some (.data .bool b,e)){vals:List Value}
  (hr:Af w (below w) (fun _=>none) [] args vals):Calls P g vals.toArray w fun en w'=>en = .returned (.bool b)∧Below w.heap.size w w':=by
 obtain⟨v,e',h1,_,_,h4⟩:=hs _ args [] [] 0 _ _ hrun
 simp only[Afl,AgI]at h1
 obtain⟨rfl,rfl⟩:=h1
 have hi:HI w (below w) (fun _=>none) [] []:=⟨fun id o h=>by simp at h,fun i j b c b' c' h=>by simp[owned]at h,fun i b c h=>by simp[owned]at h,fun i T t xs b c h=>by simp at h,fun b h=>h,rfl⟩
 refine(h4 w _ _ vals hi hr).mono ?_
 rintro en w' ⟨u,rfl,F',m',⟨hx,_⟩,hu⟩
 have hb:u = .bool b:=CZ hu
 subst hb
 exact⟨rfl,hx.os,hx.tape,hx.output,hx.size,fun i hi=>hx.keep i hi fun j c ho _=>by simp[owned]at ho⟩
end
section
variable {H:Type} {enc:TypeId×Value→H} {P:Program}
theorem ACS{f:Func}{s:ChangeSpec}{apart fresh handsOn again:Bool}{W W':World}{args:Array Value}{v:Value}{ds gs:List (DataW H)}{before pa pv:List MemPlace}
  (hW:DataW.Whole enc P f.params.toList s.vars apart W args.toList ds gs before)
  (hres:∀ (b:Nat) (sp:Nat→Bool) (hd:Bool),DataW.TrodAll enc P W' b sp hd f.resultTypes.toList (v.resultList f.resultTypes.size) (s.fn H (ds++gs)).results [])
  (hargs:∀ sp:Nat→Bool,(∀ p∈before,sp p.block=true)→DataW.TrodAll enc P W' 0 sp true f.params.toList args.toList (s.fn H (ds++gs)).args pa)
  (hvars:∀ sp:Nat→Bool,(∀ p∈before,sp p.block=true)→DataW.TrodVars enc P W' sp s.vars (s.fn H (ds++gs)).vars pv)
  (hps:before=pa++pv) (hb:Below W.heap.size W W')
  (hok:∀ (j:Nat) (t:TypeId) (r:Value),f.resultTypes[j]? = some t→(v.resultList f.resultTypes.size)[j]? = some r→Value.okWide P W' .any 0 t r) :
  s.post enc P f apart fresh handsOn again W args v W':=by
 have hlt:∀ p∈before,p.block<W.heap.size:=fun p hp=>hW.lt p hp
 have hold:∀ p∈before,(fun b=>decide (b<W.heap.size)) p.block=true:=fun p hp=>by simpa using hlt p hp
 refine⟨ds,gs,before,[],pa,pv,hW,hres _ _ _,hargs _ hold,hvars _ hold,World.keptBut_mono (fun p hp=>⟨hp,?_⟩) (hb.frame (·∈before)),fun _ => ?_⟩
 ·rw[hps,Afo]at hp
  exact Or.inr hp
 ·obtain⟨_,_,_,_,_,hz,hn⟩:=hW
  refine⟨hok,_,_,([]++pa)++pv,⟨[]++pa,pv,trodAll_append (hargs _ (fun _ _=>rfl)) (hres _ _ _),hvars _ (fun _ _=>rfl),rfl,?_,?_⟩,?_⟩
  ·intro b off hp
   have hin:MemPlace.cell b off∈before:=by rw[hps];simpa using hp
   rw[hb.frozen (hlt _ hin)]
   exact hz b off hin
  ·intro ha
   have:=hn ha
   rw[hps]at this
   simpa using this
  ·intro p hp _
   rw[hps]
   simpa using hp
theorem Xh{t:TypeId}(hl:laidOutB P=true)(hr:P.readableRec t=true)(hrow:t<P.types.size){W W':World}{v:Value}{d:DataW H}{ps:List MemPlace}
  (h:DataW.Trod enc P W 0 (fun _=>true) true t v d ps) (hb:Below W.heap.size W W') (hlt:∀ x∈ps,x.block<W.heap.size) {sp:Nat→Bool} (hs:∀ x∈ps,sp x.block=true) :
  DataW.Trod enc P W' 0 sp true t v d ps:=
 WideElems.Trod_stays hl hr hrow h (fun x hx=>hb.same (hlt x hx)) hs
end
end Go.Pev
end
section
section
namespace Go.Pev.Pl
open Tok
theorem Wz{a b:Nat}(hb:0<b):rem? (a:Int) (b:Int)=some ((a % b:Nat):Int):=by
 rw[AGI,WE,Afv (by omega)]
 rfl
theorem KD{a b:Nat}(h:a<2*b):a % b=if a<b then a else a-b:=by
 split
 ·exact Aik (by assumption)
 ·rw[Nat.mod_eq_sub_mod (by omega),Aik (by omega)]
def Jw(n t u:Int):Bool:=match B4 n t with
 |some x=>decide (x.st=u)
 |none=>false
theorem Mo{l:List Int}{j:Nat}(hj:j≤l.length):(rot l j).length=l.length:=by
 simp[rot];omega
theorem F8{l:List Int}{j k:Nat}(hj:j<l.length)(hk:k<l.length):(rot l j).getD k 0=l.getD ((j+k) % l.length) 0:=by
 rw[KD (by omega),rot]
 by_cases h:j+k<l.length
 ·rw[Af0 h,Afm,AgO (by simp;omega),Agk,Afm]
 ·rw[Afv h,Afm,AgV (by simp;omega),List.getElem?_take_of_lt (by simp;omega),Afm]
  congr 2
  simp;omega
def Red(n:Int)(l l':List Int):Prop:=∃ j x u v rest,j<l.length∧rot l j=x::DS n (.arc u v)::v::DS n (.arc v u)::rest∧okT n (.arc u v)∧Jw n x u=true∧l'=rest++[x]
def FM(l:List Int)(i:Nat):List Int:=(List.range' 3 (l.length-3)).map fun k=>l.getD ((i+k) % l.length) 0
theorem AVY{l:List Int}{i j:Nat}(hl:4≤l.length)(hj:j<l.length)(hij:i=if j+1=l.length then 0 else j+1):FM l i=(rot l j).drop 4++[(rot l j).getD 0 0]:=by
 apply Aij
 ·simp[FM,Mo (Ahp hj)];omega
 ·intro m h1 h2
  simp only[FM,Agj,List.length_range']at h1
  simp only[FM,List.getElem_map,List.getElem_range',AhN]
  have hi:i<l.length:=by rw[hij];split<;>omega
  by_cases hm:m<l.length-4
  ·rw[List.getElem_append_left (by simp[Mo (Ahp hj)];omega),List.getElem_drop]
   have:=F8 (l:=l) (j:=j) (k:=4+m) hj (by omega)
   rw[Afm,Afp (by rw[Mo (Ahp hj)];omega),AgH]at this
   rw[this]
   congr 1
   rw[KD (by omega),KD (by omega),hij]
   (repeat' split)<;>omega
  ·rw[List.getElem_append_right (by simp[Mo (Ahp hj)];omega)]
   simp only[List.getElem_singleton]
   rw[F8 hj (by omega)]
   congr 1
   rw[KD (by omega),KD (by omega),hij]
   (repeat' split)<;>omega
theorem AfS{α:Type}{l:List α}(z:α)(h:4≤l.length):l=l.getD 0 z::l.getD 1 z::l.getD 2 z::l.getD 3 z::l.drop 4:=by
 match l,h with
 |a::b::c::d::r,_=>rfl
def KI(n:Int)(l:List Int)(i:Nat):Bool:=
 decide (4≤l.length)&&match B4 n (l.getD i 0)with
  |some (.arc u v)=>decide (l.getD ((i+1) % l.length) 0=v)&&(decide (l.getD ((i+2) % l.length) 0=Dt n v u)&&Jw n (l.getD ((i+l.length-1) % l.length) 0) u)
  |_=>false
theorem Er{n u v:Int}(h:okT n (.arc u v)):okT n (.arc v u):=⟨h.2.1,h.1,Agb h.2.2⟩
theorem ARS{n:Int}{l:List Int}{i:Nat}(hi:i<l.length)(h:KI n l i=true):Red n l (FM l i):=by
 rw[KI,Afq,Afn]at h
 obtain⟨hl,h⟩:=h
 cases ht:B4 n (l.getD i 0)with
 |none=>rw[ht]at h;cases h
 |some t=>
  rw[ht]at h
  cases t with
  |ver v=>cases h
  |arc u v=>
   simp only[Afq,Afn]at h
   obtain⟨h1,h2,h3⟩:=h
   obtain⟨g1,g2⟩:=TB ht
   let j:=if i=0 then l.length-1 else i-1
   have hj:j<l.length:=by simp only[j];split<;>omega
   have hij:i=if j+1=l.length then 0 else j+1:=by simp only[j];(repeat' split)<;>omega
   have m0:(i+l.length-1) % l.length=(j+0) % l.length:=by
    rw[KD (by omega),KD (by omega)];simp only[j];(repeat' split)<;>omega
   have m1:i=(j+1) % l.length:=by rw[KD (by omega)];simp only[j];(repeat' split)<;>omega
   have m2:(i+1) % l.length=(j+2) % l.length:=by
    rw[KD (by omega),KD (by omega)];simp only[j];(repeat' split)<;>omega
   have m3:(i+2) % l.length=(j+3) % l.length:=by
    rw[KD (by omega),KD (by omega)];simp only[j];(repeat' split)<;>omega
   have hlr:4≤(rot l j).length:=by rw[Mo (Ahp hj)];exact hl
   have e:=AfS (0:Int) hlr
   have r0:=F8 (l:=l) (k:=0) hj (by omega)
   have r1:=F8 (l:=l) (k:=1) hj (by omega)
   have r2:=F8 (l:=l) (k:=2) hj (by omega)
   have r3:=F8 (l:=l) (k:=3) hj (by omega)
   rw[← m0]at r0
   rw[← m1]at r1
   rw[← m2,h1]at r2
   rw[← m3,h2,E8 (Er g1)]at r3
   refine⟨j,(rot l j).getD 0 0,u,v,(rot l j).drop 4,hj,?_,g1,by rw[r0];exact h3,AVY hl hj hij⟩
   rw[r1,r2,r3,← g2]at e
   exact e
theorem APe{n:Int}{l l':List Int}(h:Red n l l'):∃ i,i<l.length∧KI n l i=true:=by
 obtain⟨j,x,u,v,rest,hj,hr,hok,hst,_⟩:=h
 have hl:4≤l.length:=by
  have:=AhH List.length hr
  rw[Mo (Ahp hj)]at this
  simp only[Afu]at this
  omega
 let i:=if j+1=l.length then 0 else j+1
 have hi:i<l.length:=by simp only[i];split<;>omega
 have m0:(i+l.length-1) % l.length=(j+0) % l.length:=by
  rw[KD (by omega),KD (by omega)];simp only[i];(repeat' split)<;>omega
 have m1:i=(j+1) % l.length:=by rw[KD (by omega)];simp only[i];(repeat' split)<;>omega
 have m2:(i+1) % l.length=(j+2) % l.length:=by
  rw[KD (by omega),KD (by omega)];simp only[i];(repeat' split)<;>omega
 have m3:(i+2) % l.length=(j+3) % l.length:=by
  rw[KD (by omega),KD (by omega)];simp only[i];(repeat' split)<;>omega
 have r0:=F8 (l:=l) (k:=0) hj (by omega)
 have r1:=F8 (l:=l) (k:=1) hj (by omega)
 have r2:=F8 (l:=l) (k:=2) hj (by omega)
 have r3:=F8 (l:=l) (k:=3) hj (by omega)
 rw[hr]at r0 r1 r2 r3
 rw[← m0]at r0
 rw[← m1]at r1
 rw[← m2]at r2
 rw[← m3]at r3
 simp only[List.getD_cons_zero,List.getD_cons_succ]at r0 r1 r2 r3
 refine⟨i,hi,?_⟩
 rw[KI,← r1,DY hok]
 simp only[← r0,← r2,← r3,hst,E8 (Er hok),hl,Afx,Aht]
theorem Aec{n:Int}{l l':List Int}(h:Red n l l')(hn:l.Nodup):TI n l↔TI n l':=by
 obtain⟨j,x,u,v,rest,hj,hr,hok,hst,rfl⟩:=h
 obtain⟨X,hX,hXs⟩:∃ X,B4 n x=some X∧X.st=u:=by
  rw[Jw]at hst
  cases hx:B4 n x with
  |none=>rw[hx]at hst;cases hst
  |some X=>rw[hx]at hst;exact⟨X,rfl,by simpa using hst⟩
 obtain⟨hX1,hX2⟩:=TB hX
 have hnr:(rot l j).Nodup:=by
  rw[rot]
  exact(List.perm_append_comm.nodup_iff).2 (by rw[Agc];exact hn)
 rw[hr]at hnr
 constructor
 ·rintro⟨L,h1,h2,h3⟩
  have hL:rot l j=(L.drop j++L.take j).map (DS n):=by rw[rot,h1];simp
  have hTr:T (L.drop j++L.take j):=T.rot (L.take j) (L.drop j) (by rw[Agc];exact h3)
  have hok2:∀ t∈L.drop j++L.take j,okT n t:=fun t ht=>h2 t (by
   rw[← Agc j L]
   simp only[Afo]at ht ⊢
   exact ht.symm)
  generalize L.drop j++L.take j=M at *
  rw[hr]at hL
  match M,hL with
  |[_,_],hL=>simp at hL
  |[_,_,_],hL=>simp at hL
  |a::b::c::d::r,hL=>
   simp only[AgM,AgB]at hL
   obtain⟨e1,e2,e3,e4,e5⟩:=hL
   have q1:X=a:=GF hX1 (hok2 a (by simp)) (by rw[hX2,e1])
   have q2:Tok.arc u v=b:=GF hok (hok2 b (by simp)) e2
   have q3:Tok.ver v=c:=GF (show okT n (.ver v)from hok.2.1) (hok2 c (by simp)) e3
   have q4:Tok.arc v u=d:=GF (Er hok) (hok2 d (by simp)) e4
   subst q1 q2 q3 q4
   subst hXs
   have:=T.less hTr
   refine⟨r++[X],by simp[e5,hX2],fun t ht=>hok2 t ?_,T.rot [X] r this⟩
   simp only[Afo,AgF]at ht
   rcases ht with h|h<;>simp[h]
 ·rintro⟨K,k1,k2,k3⟩
  obtain⟨K1,K2,rfl,e1,e2⟩:=Aif.1 k1.symm
  obtain⟨X',K3,rfl,e3,e4⟩:=List.map_eq_cons_iff.1 e2
  rw[List.map_eq_nil_iff]at e4
  subst e4
  have q1:X'=X:=GF (k2 X' (by simp)) hX1 (by rw[hX2,e3])
  subst q1
  have t1:T (X'::K1):=T.rot K1 [X'] k3
  subst hXs
  have hvm:∀ t,t∈X'::K1→okT n t:=fun t ht=>k2 t (by
   simp only[Afr,Afo,AgF]at ht ⊢
   rcases ht with h|h<;>simp[h])
  have hnv:Tok.ver v∉X'::K1:=by
   intro hm
   have hvl:v=x∨v∈rest:=by
    rcases Afr.1 hm with h|h
    ·left;rw[← hX2,← h];rfl
    ·right;rw[← e1];exact Af7.2 ⟨_,h,rfl⟩
   simp only[AgG,Afr,not_or]at hnr
   rcases hvl with h|h
   ·exact hnr.1.2.1 h.symm
   ·exact hnr.2.2.1.2 h
  have t2:=T.add X' K1 v t1 hok.2.2 hnv
  have hmap:rot l j=(X' :: .arc X'.st v :: .ver v :: .arc v X'.st::K1).map (DS n):=by
   rw[hr];simp only[AgM,hX2,e1];rfl
  have hok3:∀ t∈X'::Tok.arc X'.st v :: .ver v :: .arc v X'.st::K1,okT n t:=by
   intro t ht
   simp only[Afr]at ht
   rcases ht with rfl|rfl|rfl|rfl|h
   ·exact hX1
   ·exact hok
   ·exact hok.2.1
   ·exact Er hok
   ·exact hvm t (AgA _ h)
  generalize X'::Tok.arc X'.st v :: .ver v :: .arc v X'.st::K1=M at *
  rw[rot]at hmap
  obtain⟨M1,M2,rfl,f1,f2⟩:=Aif.1 hmap.symm
  refine⟨M2++M1,by rw[AhI,f1,f2,Agc],fun t ht=>hok3 t ?_,T.rot M1 M2 t2⟩
  simp only[Afo]at ht ⊢
  exact ht.symm
theorem AfH{n:Int}{l:List Int}(h:TI n l)(hl:1<l.length):∃ l',Red n l l':=by
 obtain⟨L,h1,h2,h3⟩:=h
 rcases h3.leaf with⟨v,e⟩|⟨x,v,r,p,q,e1,e2⟩
 ·rw[h1,e]at hl;simp at hl
 ·have hmap:l.map id=(p++q).map (DS n):=by rw[List.map_id,h1,e1]
  rw[List.map_id]at hmap
  have hok:∀ t∈q++p,okT n t:=fun t ht=>h2 t (by rw[e1];simp only[Afo]at ht ⊢;exact ht.symm)
  have key:∀ j,j<l.length→rot l j=(q++p).map (DS n)→∃ l',Red n l l':=by
   intro j hj hrj
   rw[← e2]at hok
   rw[← e2]at hrj
   have ha:okT n (.arc x.st v):=hok _ (by simp)
   exact⟨_,j,DS n x,x.st,v,r.map (DS n),hj,by rw[hrj];rfl,ha,by rw[Jw,DY (hok x (by simp))];simp,rfl⟩
  by_cases hq:q=[]
  ·subst hq
   refine key 0 (by omega) ?_
   simp[rot,hmap]
  ·have hj:p.length<l.length:=by
    rw[hmap,Agj,Afs]
    have:=List.length_pos_iff.2 hq
    omega
   refine key p.length hj ?_
   rw[rot,hmap,AhI]
   rw[List.drop_left' (by simp),AiQ (by simp),AhI]
end Go.Pev.Pl
end
section
namespace Go.Pev.Pl
open Tok
theorem APa{l:List Int}{i:Nat}(hi:i<l.length):∀ x∈FM l i,x∈l:=by
 intro x hx
 simp only[FM,Af7]at hx
 obtain⟨k,_,rfl⟩:=hx
 have hk:(i+k) % l.length<l.length:=Nat.mod_lt _ (by omega)
 rw[Afm,Afp hk,AgH]
 exact Ag0 hk
theorem AVZ{n:Int}{l l':List Int}(h:Red n l l')(hn:l.Nodup):l'.Nodup:=by
 obtain⟨j,x,u,v,rest,hj,hr,hok,hst,rfl⟩:=h
 have hnr:(rot l j).Nodup:=by
  rw[rot]
  exact(List.perm_append_comm.nodup_iff).2 (by rw[Agc];exact hn)
 rw[hr]at hnr
 have:(x::rest).Nodup:=by
  simp only[AgG,Afr,not_or]at hnr ⊢
  exact⟨hnr.1.2.2.2,hnr.2.2.2.2⟩
 exact(AhW (l₁:=[x]) (l₂:=rest)).nodup_iff.1 this
theorem AcC(n t:Int):TI n [t]↔In n t:=by
 constructor
 ·rintro⟨L,h1,h2,h3⟩
  rcases h3.leaf with⟨v,e⟩|⟨x,v,r,hr⟩
  ·subst e
   simp only[AgM,Ah0,AgB,and_true]at h1
   rw[h1]
   exact h2 (.ver v) (by simp)
  ·have h4:=hr.length
   have h5:=AhH List.length h1
   simp only[Afu,Af6,Agj]at h4 h5
   omega
 ·intro h
  exact⟨[.ver t],rfl,fun x hx=>by simp at hx;subst hx;exact h,T.one t⟩
theorem AcD(n:Int):¬ TI n []:=by
 rintro⟨L,h1,h2,h3⟩
 have:=h3.facts.1
 cases L with
 |nil=>exact this rfl
 |cons t L=>cases h1
end Go.Pev.Pl
end
section
namespace Go.Pev.Pl
open Tok
def RG(n:Int)(xs:List Int):Prop:=Rt xs∧xs≠[]∧GW xs=xs.headD 0∧TI n xs
def okR(n:Int):List Int→Int→List (List Int)→Prop
 |_,_,[]=>True
 |seen,last,l::ls=>RG n l∧last<l.headD 0∧(∀ t∈l,t<n→t∉seen)∧okR n (seen++l.filter (fun t=>decide (t<n))) (l.headD 0) ls
def RF(n:Int)(rings:List (List Int)):Prop:=Sz n∧okR n [] (-1) rings∧∀ v,0≤v→v<n→v∈rings.flatten
noncomputable instance (n:Int) (rings:List (List Int)):Decidable (RF n rings):=Classical.propDecidable _
noncomputable instance (n:Int) (xs:List Int):Decidable (RG n xs):=Classical.propDecidable _
def MI(n:Int)(met:List (Int×Int))(seen:List Int):Prop:=∀ t,t<n→(AU met t).getD (0:Int)=if t∈seen then 1 else 0
theorem AFU(n:Int)(l:List Int)(hl:l.length<1073741824)(d1:List (List Int))(d3:Int)(d4:List (List Int))(d5 d6:Int)(d7:List Int)(d8 d9:Int)(d10:Bool)(d11:List Int)(d12 d13:Bool)(d14:List Int)(d15:Int)(d16:List Int)(d17:Int)(d18:Bool)(d19:Int)(d20:List Int)(d21 d22:Bool):
  ∀ (m k cnt:Nat) (met:List (Int×Int)) (seen:List Int),k+m=l.length→MI n met seen→(l.drop k).Nodup→m<cnt →
  ((∀ t∈l.drop k,t<n→t∉seen)∧∃ met',AQ DV cnt (n,d1,met,d3,d4,d5,d6,d7,d8,d9,d10,d11,d12,d13,d14,d15,d16,d17,d18,d19,d20,d21,d22,l,(l.length:Int),(k:Int),()) =
    some (.inr (.inl (n,d1,met',d3,d4,d5,d6,d7,d8,d9,d10,d11,d12,d13,d14,d15,d16,d17,d18,d19,d20,d21,d22,())))∧MI n met' (seen++(l.drop k).filter (fun t=>decide (t<n)))) ∨
  (¬ (∀ t∈l.drop k,t<n→t∉seen)∧AQ DV cnt (n,d1,met,d3,d4,d5,d6,d7,d8,d9,d10,d11,d12,d13,d14,d15,d16,d17,d18,d19,d20,d21,d22,l,(l.length:Int),(k:Int),())=some (.inl (false,()))):=by
 intro m
 induction m with
 |zero=>
  intro k cnt met seen hk hm hn hc
  obtain⟨cnt,rfl⟩:∃ c,cnt=c+1:=⟨cnt-1,by omega⟩
  have e:l.drop k=[]:=Agv (by omega)
  rw[e]
  refine .inl ⟨by simp,met,?_,by simpa using hm⟩
  rw[AQ,DV,AI,Afj (by omega)]
 |succ m ih=>
  intro k cnt met seen hk hm hn hc
  obtain⟨cnt,rfl⟩:∃ c,cnt=c+1:=⟨cnt-1,by omega⟩
  have hk':k<l.length:=by omega
  have e:l.drop k=l.getD k 0::l.drop (k+1):=by
   rw[AgX hk',Afm,Afp hk',AgH]
  rw[AQ,DV,AI,Afk hk']
  simp only[Ck (0:Int) hk']
  rw[e]at hn ⊢
  generalize l.getD k 0=t at *
  rw[AgG]at hn
  rw[AH (by omega),Al]
  by_cases ht:t<n
  ·rw[Afk ht]
   have hmt:=hm t ht
   simp only[hmt,Al]
   by_cases hs:t∈seen
   ·rw[Af0 hs,Afk (by omega)]
    exact .inr ⟨fun h=>h t (by simp) ht hs,rfl⟩
   ·rw[Afv hs,Afj (by omega)]
    simp only[]
    have w1:IntKind.wrap .i64 ((0:Int)+1)=1:=by rw[Aj (by omega)];rfl
    rw[w1]
    have hm':MI n (Ah met t 1) (seen++[t]):=by
     intro y hy
     rw[G0]
     by_cases e2:y=t
     ·simp[e2]
     ·simp only[e2,Af1,Afo,AgF,AiK];exact hm y hy
    have hiff:(∀ y∈t::l.drop (k+1),y<n→y∉seen)↔∀ y∈l.drop (k+1),y<n→y∉seen++[t]:=by
     constructor
     ·intro h y hy hyn hm2
      simp only[Afo,AgF]at hm2
      rcases hm2 with h2|rfl
      ·exact h y (AgA _ hy) hyn h2
      ·exact hn.1 hy
     ·intro h y hy hyn hm2
      rcases Afr.1 hy with rfl|hy
      ·exact hs hm2
      ·exact h y hy hyn (by simp[hm2])
    rcases ih (k+1) cnt _ _ (by omega) hm' hn.2 (by omega)with⟨q1,met',q2,q3⟩|⟨q1,q2⟩
    ·refine .inl ⟨hiff.2 q1,met',q2,?_⟩
     rw[AiZ (by simpa using ht)]
     simpa using q3
    ·exact .inr ⟨fun h=>q1 (hiff.1 h),q2⟩
  ·rw[Afj ht]
   simp only[]
   have hm':MI n (Ah met t (IntKind.wrap .i64 (((AU met t).getD (0:Int))+(1:Int)))) seen:=by
    intro y hy
    rw[G0,Afv (by omega)]
    exact hm y hy
   have hiff:(∀ y∈t::l.drop (k+1),y<n→y∉seen)↔∀ y∈l.drop (k+1),y<n→y∉seen:=by
    constructor
    ·intro h y hy;exact h y (AgA _ hy)
    ·intro h y hy hyn
     rcases Afr.1 hy with rfl|hy
     ·exact absurd hyn ht
     ·exact h y hy hyn
   rcases ih (k+1) cnt _ _ (by omega) hm' hn.2 (by omega)with⟨q1,met',q2,q3⟩|⟨q1,q2⟩
   ·refine .inl ⟨hiff.2 q1,met',q2,?_⟩
    rw[Aia (by simpa using ht)]
    exact q3
   ·exact .inr ⟨fun h=>q1 (hiff.1 h),q2⟩
theorem Xi(n:Int)(rings:List (List Int))(hlen:rings.length<1073741824)(hr:∀ l∈rings,l.length<9223372036854775808∧∀ x∈l, -9223372036854775808≤x∧x≤9223372036854775807):
  ∀ (ls:List (List Int)) (i cnt:Nat) (met:List (Int×Int)) (last:Int) (seen:List Int),rings.drop i=ls→i≤rings.length→MI n met seen→ls.length<cnt →
  (okR n seen last ls∧∃ met' seen',AQ DW cnt (n,rings,met,last,rings,(rings.length:Int),(i:Int),())=some (.inr (.inl (n,rings,met',())))∧MI n met' seen'∧∀ v,v∈seen'↔v∈seen∨(v<n∧v∈ls.flatten)) ∨
  (¬ okR n seen last ls∧AQ DW cnt (n,rings,met,last,rings,(rings.length:Int),(i:Int),())=some (.inl (false,()))):=by
 have hmany:4294967296<many:=by simp only[many];omega
 intro ls
 induction ls with
 |nil=>
  intro i cnt met last seen hd hi hm hc
  obtain⟨cnt,rfl⟩:∃ c,cnt=c+1:=⟨cnt-1,by simp at hc;omega⟩
  have:rings.length≤i:=by simpa using hd
  refine .inl ⟨trivial,met,seen,?_,hm,by simp⟩
  rw[AQ,DW,AI,Afj (by omega)]
 |cons l ls ih=>
  intro i cnt met last seen hd hi hm hc
  simp only[Afu]at hc
  obtain⟨cnt,rfl⟩:∃ c,cnt=c+1:=⟨cnt-1,by omega⟩
  have hi':i<rings.length:=by
   refine AgY fun h => ?_
   rw[Agv (by omega)]at hd
   cases hd
  rw[AgX hi']at hd
  simp only[AgB]at hd
  obtain⟨hd1,hd2⟩:=hd
  have hx:rings[i]? = some l:=by rw[Afp hi',hd1]
  have hmem:l∈rings:=Af3 hx
  obtain⟨hl,hlr⟩:=hr l hmem
  rw[AQ,DW,AI,Afk hi',okR]
  simp only[Ag hx,Ao]
  cases l with
  |nil=>
   rw[AN,Afk (by simp)]
   exact .inr ⟨fun h=>h.1.2.1 rfl,rfl⟩
  |cons x tl=>
   rw[AN,Afj (by simp only[Afu];omega)]
   have i0:idx (x::tl) (0:Int)=some x:=by rw[Eu];rfl
   simp only[i0,AiR,Ap]
   by_cases c1:x≤last
   ·rw[Afk c1]
    exact .inr ⟨fun h=>by omega,rfl⟩
   ·rw[Afj c1]
    simp only[OF]
    by_cases c2:Rt (x::tl)
    ·rw[Afk c2]
     have hl:(x::tl).length<1073741824:=by have:=c2.1;omega
     simp only[Aft,AMS (x::tl) (by simp) (by omega)]
     by_cases c3:GW (x::tl)=x
     ·rw[Afk c3]
      simp only[Aft]
      rw[AbP n (x::tl) (by simp) (by omega) hlr c2.2.2 (fun y hy=>by simp at hy;rw[← hy];exact c3)]
      by_cases c4:TI n (x::tl)
      ·rw[Afk c4]
       simp only[Aft,Ae]
       have hRG:RG n (x::tl):=⟨c2,by simp,c3,c4⟩
       rcases AFU n (x::tl) hl rings x rings (rings.length:Int) (i:Int) (x::tl) x last false (x::tl) true false (x::tl) (GW (x::tl)) (x::tl) x false n (x::tl) true false (x::tl).length 0 many met seen (by omega) hm (by rw[Ahj];exact c2.2.2) (by omega)with⟨q1,met',q2,q3⟩|⟨q1,q2⟩
       ·rw[Ahj]at q1 q3
        have q2':AQ DV many (n,rings,met,x,rings,(rings.length:Int),(i:Int),x::tl,x,last,false,x::tl,true,false,x::tl,GW (x::tl),x::tl,x,false,n,x::tl,true,false,x::tl,((x::tl).length:Int),(0:Int),())=_:=q2
        simp only[q2',AH (show i+1<9223372036854775808 by omega)]
        rcases ih (i+1) cnt met' x (seen++(x::tl).filter (fun t=>decide (t<n))) hd2 (by omega) q3 (by omega)with⟨p1,met2,seen2,p2,p3,p4⟩|⟨p1,p2⟩
        ·refine .inl ⟨⟨hRG,by omega,q1,p1⟩,met2,seen2,p2,p3,fun v => ?_⟩
         rw[p4,Afo,AgW,AhQ,Afo]
         simp only[Afn]
         constructor
         ·rintro ((h|h)|h)
          ·exact .inl h
          ·exact .inr ⟨h.2,.inl h.1⟩
          ·exact .inr ⟨h.1,.inr h.2⟩
         ·rintro (h|⟨h,h2|h2⟩)
          ·exact .inl (.inl h)
          ·exact .inl (.inr ⟨h2,h⟩)
          ·exact .inr ⟨h,h2⟩
        ·exact .inr ⟨fun h=>p1 h.2.2.2,p2⟩
       ·rw[Ahj]at q1
        have q2':AQ DV many (n,rings,met,x,rings,(rings.length:Int),(i:Int),x::tl,x,last,false,x::tl,true,false,x::tl,GW (x::tl),x::tl,x,false,n,x::tl,true,false,x::tl,((x::tl).length:Int),(0:Int),())=_:=q2
        simp only[q2']
        exact .inr ⟨fun h=>q1 h.2.2.1,by trivial⟩
      ·rw[Afj c4]
       exact .inr ⟨fun h=>c4 h.1.2.2.2,rfl⟩
     ·rw[Afj c3]
      exact .inr ⟨fun h=>c3 h.1.2.2.1,rfl⟩
    ·rw[Afj c2]
     exact .inr ⟨fun h=>c2 h.1.1,rfl⟩
theorem N8(n:Int)(rings:List (List Int))(hlen:rings.length<1073741824)(hr:∀ l∈rings,l.length<9223372036854775808∧∀ x∈l, -9223372036854775808≤x∧x≤9223372036854775807):
  N9 ((n,(rings,())),())=some (decide (RF n rings),()):=by
 have hmany:4294967296<many:=by simp only[many];omega
 rw[ADY,PQ]
 simp only[Js]
 by_cases hS:Sz n
 ·rw[Afk hS]
  simp only[Aft,Ae,AN]
  rcases Xi n rings hlen hr rings 0 many [] (-1) [] (by simp) (by omega) (fun t _=>by simp[AU]) (by omega)with⟨p1,met,seen,p2,p3,p4⟩|⟨p1,p2⟩
  ·have p2':AQ DW many (n,rings,[], -1,rings,(rings.length:Int),(0:Int),())=_:=p2
   simp only[p2']
   obtain⟨s1,s2⟩:=hS
   obtain⟨N,rfl⟩:=Afy (show 0≤n by omega)
   have e:=X4 (step:=ES) (fun i=>(met,(N:Int),(i:Int),())) N (fun i=>decide ((i:Int)∉seen)) (fun _=>.inl (false,())) (.inr (.inl ())) (by omega)
    (fun i hi=>by
     have:=p3 (i:Int) (by omega)
     rw[ES,AI,Afk hi]
     simp only[this,Ao]
     by_cases h:(i:Int)∈seen
     ·simp only[h,AgC,not_true]
      rw[AH (by omega)];simp
     ·simp[h])
    (by rw[ES,AI,Afj (by omega)])
   rw[Ae]at e
   have hv:∀ v,v∈seen↔(v<(N:Int)∧v∈rings.flatten):=fun v=>by rw[p4];simp
   rcases e with⟨k,k1,k2,_,k4⟩|⟨k1,k4⟩
   ·have k4':AQ ES many (met,(N:Int),(0:Int),())=_:=k4
    rw[k4',Afj]
    rintro⟨_,_,h⟩
    simp only[Afn]at k2
    exact k2 ((hv _).2 ⟨by omega,h (k:Int) (by omega) (by omega)⟩)
   ·have k4':AQ ES many (met,(N:Int),(0:Int),())=_:=k4
    rw[k4',Afk]
    refine⟨⟨s1,s2⟩,p1,fun v v1 v2 => ?_⟩
    obtain⟨k,rfl⟩:=Afy v1
    have:=k1 k (by omega)
    simp only[AgU,Ahv]at this
    exact((hv _).1 this).2
  ·have p2':AQ DW many (n,rings,[], -1,rings,(rings.length:Int),(0:Int),())=_:=p2
   simp only[p2']
   rw[Afj (fun h=>p1 h.2.1)]
 ·rw[Afj hS,Afj (fun h=>hS h.1)];rfl
end Go.Pev.Pl
end
section
namespace Go.Pev.Pl
open Tok
def MB(N:Nat)(met:List Bool)(seen:List Int):Prop:=met.length=N∧∀ k,k<N→met.getD k false=decide ((k:Int)∈seen)
theorem Ym{xs:List Int}(hr:Rt xs)(h:xs≠[]):plain xs=xs↔GW xs=xs.headD 0:=by
 obtain⟨a,b,h1,h2⟩:=Hf hr h
 constructor
 ·intro e
  rw[e]at h2
  rw[h2]
  have:GW xs=GW xs:=rfl
  conv=>lhs;rw[← h2]
  rfl
 ·intro e
  cases a with
  |nil=>rw[h2,Agw];exact h1.symm
  |cons y a=>
   exfalso
   have hn:=hr.2.2
   have hy:y=GW xs:=by rw[e,h1];rfl
   rw[h1,AgE,AgG]at hn
   exact hn.1 (by rw[← hy];simp)
theorem AWE{n:Int}:∀ {ls:List (List Int)} {seen:List Int} {last:Int},okR n seen last ls→seen.Nodup→(seen++ls.flatten.filter (fun t=>decide (t<n))).Nodup∧∀ l∈ls,RG n l:=by
 intro ls
 induction ls with
 |nil=>intro seen last _ h;simpa using h
 |cons l ls ih=>
  intro seen last ⟨h1,h2,h3,h4⟩ hs
  obtain⟨g1,g2⟩:=ih h4 (by
   rw[Ahq]
   refine⟨hs,(h1.1.2.2).filter _,fun a ha b hb => ?_⟩
   rintro rfl
   simp only[AgW,Afn]at hb
   exact h3 a hb.1 hb.2 ha)
  refine⟨by rw[AhQ,AhB,← AgP];exact g1,fun k hk => ?_⟩
  rcases Afr.1 hk with rfl|hk
  ·exact h1
  ·exact g2 k hk
theorem NW{n:Int}{l:List Int}(h:RG n l):In n (l.headD 0):=by
 obtain⟨h1,h2,h3,h4⟩:=h
 cases l with
 |nil=>exact absurd rfl h2
 |cons x l=>exact AUZ h4 h3
theorem ATs{n:Int}(hn:1≤n):∀ {ls:List (List Int)} {seen:List Int} {last:Int},okR n seen last ls→-1≤last→last<n→(ls.length:Int)≤n-1-last:=by
 intro ls
 induction ls with
 |nil=>intro seen last _ _ h;simp;omega
 |cons l ls ih=>
  intro seen last ⟨h1,h2,h3,h4⟩ hl hl2
  have hh:=(NW h1).2.2
  have:=ih h4 (by omega) hh.2
  simp only[Afu]
  omega
end Go.Pev.Pl
end
section
namespace Go.Pev.Pl
open Tok
def hd(l:List Int):Int:=l.headD 0
def Dis(n:Int)(a b:List Int):Prop:=∀ t∈a,t<n→t∉b
structure FR(n:Int)(rings:List (List Int)):Prop where
 sz:Sz n
 rg:∀ l∈rings,RG n l
 up:rings.Pairwise (fun a b=>hd a<hd b)
 dis:rings.Pairwise (Dis n)
 cov:∀ v,In n v→∃ l∈rings,v∈l
theorem Dis.symm{n:Int}{a b:List Int}(h:Dis n a b):Dis n b a:=fun t ht hn ha=>h t ha hn ht
theorem ATt{n:Int}:∀ {ls:List (List Int)} {seen:List Int} {last:Int},okR n seen last ls↔(∀ l∈ls,RG n l∧last<hd l∧∀ t∈l,t<n→t∉seen)∧ls.Pairwise (fun a b=>hd a<hd b)∧ls.Pairwise (Dis n):=by
 intro ls
 induction ls with
 |nil=>intro seen last;simp[okR]
 |cons l ls ih=>
  intro seen last
  rw[okR,ih,AgZ,AgZ]
  constructor
  ·rintro⟨h1,h2,h3,h4,h5,h6⟩
   refine⟨fun k hk => ?_,⟨fun k hk=>(h4 k hk).2.1,h5⟩,⟨fun k hk t ht htn htk => ?_,h6⟩⟩
   ·rcases Afr.1 hk with rfl|hk
    ·exact⟨h1,h2,h3⟩
    ·obtain⟨q1,q2,q3⟩:=h4 k hk
     exact⟨q1,Int.lt_trans h2 q2,fun t ht htn hts=>q3 t ht htn (by simp[hts])⟩
   ·exact(h4 k hk).2.2 t htk htn (by simp[ht,htn])
  ·rintro⟨h1,⟨h2,h3⟩,⟨h4,h5⟩⟩
   obtain⟨q1,q2,q3⟩:=h1 l (by simp)
   refine⟨q1,q2,q3,fun k hk => ?_,h3,h5⟩
   obtain⟨p1,p2,p3⟩:=h1 k (by simp[hk])
   refine⟨p1,h2 k hk,fun t ht htn hts => ?_⟩
   simp only[Afo,AgW]at hts
   rcases hts with h|h
   ·exact p3 t ht htn h
   ·exact h4 k hk t h.1 htn ht
theorem Kf{n:Int}{rings:List (List Int)}:RF n rings↔FR n rings:=by
 constructor
 ·rintro⟨h1,h2,h3⟩
  obtain⟨q1,q2,q3⟩:=ATt.1 h2
  refine⟨h1,fun l hl=>(q1 l hl).1,q2,q3,fun v hv => ?_⟩
  obtain⟨l,hl,h⟩:=Ail.1 (h3 v hv.2.2.1 hv.2.2.2)
  exact⟨l,hl,h⟩
 ·rintro⟨h1,h2,h3,h4,h5⟩
  refine⟨h1,ATt.2 ⟨fun l hl=>⟨h2 l hl,?_,by simp⟩,h3,h4⟩,fun v v1 v2 => ?_⟩
  ·have:=(NW (h2 l hl)).2.2.1
   show(-1:Int)<l.headD 0
   omega
  ·obtain⟨l,hl,h⟩:=h5 v ⟨h1.1,h1.2,v1,v2⟩
   exact Ail.2 ⟨l,hl,h⟩
theorem T3{ys zs:List (List Int)}(hz:zs.Pairwise (fun a b=>hd a<hd b))(hp:ys.Perm zs)(hy:ys.Pairwise (fun a b=>¬ hd b<hd a)):ys=zs:=by
 have hinj:∀ a∈zs,∀ b∈zs,hd a=hd b→a=b:=by
  intro a ha b hb e
  refine AgY fun hne => ?_
  obtain⟨i,hi,rfl⟩:=Agp ha
  obtain⟨j,hj,rfl⟩:=Agp hb
  rw[Agr]at hz
  rcases AiC i j with h|h|h
  ·have:=hz i j hi hj h;omega
  ·subst h;exact hne rfl
  ·have:=hz j i hj hi h;omega
 refine AiU (le:=fun a b=>¬ hd b<hd a) ?_ hy ?_ hp
 ·intro a b ha hb h1 h2
  exact hinj a (hp.mem_iff.1 ha) b hb (by omega)
 ·exact hz.imp fun h=>by omega
def plc(rings:List (List Int))(v:Int):Int:=if rings.any (fun l=>decide (v∈l))then((rings.findIdx (fun l=>decide (v∈l)):Nat):Int)else -1
theorem HV(n:Int)(rings:List (List Int))(v:Int)(hlen:rings.length<1073741824)(hr:∀ l∈rings,l.length<9223372036854775808):OA ((n,(rings,())),v,())=some (plc rings v,()):=by
 rw[ADa,PR,Ih,Dg]
 have e:=Ip (step:=Bd) (fun i=>(v,rings,AO rings,(i:Int),())) rings (fun l=>decide (v∈l)) (fun i=>.inl (v,(i:Int),())) (.inr (.inl (v,()))) (by omega)
  (fun i l hi hx=>by
   have hl:=hr l (Af3 hx)
   rw[Bd,AN,AI,Afk hi]
   simp only[Ag hx,GG l v (by omega)]
   rw[AH (by omega)]
   by_cases h:v∈l
   ·rw[Afk h];rfl
   ·rw[Afj h];rfl)
  (by rw[Bd,AN,AI,Afj (by omega)])
 have e':AR Bd many (v,rings,AO rings,(0:Int),())=_:=e
 simp only[e',plc]
 cases rings.any (fun l=>decide (v∈l))<;>rfl
theorem LX{rings:List (List Int)}{v:Int}(h:∃ l∈rings,v∈l):∃ k l,plc rings v=((k:Nat):Int)∧rings[k]? = some l∧v∈l∧k<rings.length:=by
 obtain⟨l,hl,hv⟩:=h
 have hany:rings.any (fun l=>decide (v∈l))=true:=AhL.2 ⟨l,hl,by simpa using hv⟩
 have hk:rings.findIdx (fun l=>decide (v∈l))<rings.length:=AhP.2 ⟨l,hl,by simpa using hv⟩
 refine⟨_,rings[rings.findIdx (fun l=>decide (v∈l))],by rw[plc,Af0 hany],by rw[Afp hk],?_,hk⟩
 have:=List.findIdx_getElem (xs:=rings) (p:=fun l=>decide (v∈l)) (w:=hk)
 simpa using this
theorem FR.uniq{n:Int}{rings:List (List Int)}(h:FR n rings){i j:Nat}{a b:List Int}{v:Int}(hi:rings[i]? = some a)(hj:rings[j]? = some b)(hn:v<n)(ha:v∈a)(hb:v∈b):i=j:=by
 obtain⟨hi1,rfl⟩:=AgN.1 hi
 obtain⟨hj1,rfl⟩:=AgN.1 hj
 have hd:=Agr.1 h.dis
 rcases AiC i j with g|g|g
 ·exact absurd hb (hd i j hi1 hj1 g v ha hn)
 ·exact g
 ·exact absurd ha (hd j i hj1 hi1 g v hb hn)
theorem FR.Yl{n:Int}{rings:List (List Int)}(h:FR n rings){k:Nat}{a:List Int}{v:Int}(hk:rings[k]? = some a)(hn:v<n)(ha:v∈a):plc rings v=(k:Int):=by
 obtain⟨j,l,e,hj,hv,_⟩:=LX ⟨a,Af3 hk,ha⟩
 rw[e,h.uniq hj hk hn hv ha]
theorem AAs{α:Type}{l:List α}{i:Nat}{a:α}(h:l[i]? = some a):l.Perm (a::l.eraseIdx i):=by
 obtain⟨hi,rfl⟩:=AgN.1 h
 rw[List.eraseIdx_eq_take_drop_succ]
 conv=>lhs;rw[← Agc i l,AgX hi]
 exact List.perm_middle
theorem Iq{α:Type}{l:List α}{i j:Nat}{a b:α}(hij:i<j)(hi:l[i]? = some a)(hj:l[j]? = some b):l.Perm (a::b::(l.eraseIdx j).eraseIdx i):=by
 have h1:=AAs hj
 have h2:(l.eraseIdx j)[i]? = some a:=by rw[List.getElem?_eraseIdx_of_lt hij,hi]
 exact h1.trans (((AAs h2).cons b).trans (List.Perm.swap a b _))
theorem AWD{n:Int}{t:Tok}(h:okT n t):0≤DS n t∧DS n t≤4160∧DS n t<n*(n+1):=by
 cases t with
 |ver v=>
  obtain⟨h1,h2,h3,h4⟩:=h
  have:n*1≤n*(n+1):=Int.mul_le_mul_of_nonneg_left (by omega) (by omega)
  simp only[DS];omega
 |arc u v=>
  obtain⟨h1,h2,_⟩:=h
  obtain⟨g1,g2,_⟩:=XK h1 h2
  have hb:=FT (u:=n+1-1) h1.1 h1.2.1 (by have:=h1.1;omega) (by have:=h1.2.1;omega)
  have e:n*(n+1)=n*(n+1-1)+n:=by rw[show n+1-1=n by omega,Aid,Aie]
  have:=h1.1
  have:=h1.2.1
  simp only[DS]
  omega
theorem Aeu{n:Int}{t:Tok}(h:okT n t):Sz n:=by
 cases t with
 |ver v=>exact⟨h.1,h.2.1⟩
 |arc u v=>exact⟨h.1.1,h.1.2.1⟩
theorem N7:∀ {L:List Tok},L.Nodup→(LJ L).Nodup
 |[],_=>by simp[LJ]
 |.ver v::L,h=>by
  rw[AgG]at h
  rw[LJ,AgG]
  exact⟨fun hm=>h.1 (P6.1 hm),N7 h.2⟩
 |.arc _ _::L,h=>by
  rw[AgG]at h
  rw[LJ]
  exact N7 h.2
theorem AeR{n:Int}{xs:List Int}(h:TI n xs):Rt xs:=by
 obtain⟨L,rfl,h2,h3⟩:=h
 have hn:=h3.nodup
 refine⟨?_,fun x hx => ?_,?_⟩
 ·obtain⟨v,r,hr⟩:=h3.ANv
  have hS:Sz n:=Aeu (h2 (.ver v) ((hr.mem _).2 (by simp)))
  have hl:=h3.len
  have hv:=C5 (a:=LJ L) (b:=(List.range n.toNat).map (fun(k:Nat)=>(k:Int))) (N7 hn) fun x hx=>by
   have:=h2 _ (P6.1 hx)
   have h5:=this.2.2
   rw[Af7]
   exact⟨x.toNat,by rw[Agt];omega,by omega⟩
  have h6:=hS.2
  simp only[Agj,AgQ]at hv ⊢
  omega
 ·obtain⟨t,ht,rfl⟩:=Af7.1 hx
  have:=AWD (h2 t ht)
  omega
 ·rw[List.Nodup,AhF]
  exact hn.imp_of_mem fun ha hb hne e=>hne (GF (h2 _ ha) (h2 _ hb) e)
def AJK(a b:List Int):Prop:=∃ x y,a=x++y∧b=y++x
theorem AJK.perm{a b:List Int}(h:AJK a b):a.Perm b:=by
 obtain⟨x,y,rfl,rfl⟩:=h
 exact AhW
theorem AJK.symm{a b:List Int}(h:AJK a b):AJK b a:=by obtain⟨x,y,h1,h2⟩:=h;exact⟨y,x,h2,h1⟩
theorem AcB{n:Int}{a b:List Int}(h:TI n a)(r:AJK a b):TI n b:=by
 obtain⟨L,h1,h2,h3⟩:=h
 obtain⟨x,y,rfl,rfl⟩:=r
 obtain⟨L1,L2,rfl,e1,e2⟩:=Aif.1 h1.symm
 refine⟨L2++L1,by rw[AhI,e1,e2],fun t ht=>h2 t ?_,T.rot L1 L2 h3⟩
 simp only[Afo]at ht ⊢
 exact ht.symm
theorem CT{xs:List Int}{t:Int}(h:t∈xs):AJK xs (A5 xs t):=by
 obtain⟨a,b,e1,_,e3⟩:=YU h
 exact⟨a,t::b,e1,by rw[e3]⟩
theorem AWK{xs ys:List Int}(h:xs.Perm ys)(hne:xs≠[]):GW ys=GW xs:=by
 obtain⟨h1,h2⟩:=Eb hne
 exact AdE (h.mem_iff.1 h1) fun x hx=>h2 x (h.mem_iff.2 hx)
theorem APr{xs:List Int}(hr:Rt xs)(hne:xs≠[]):AJK xs (plain xs):=by
 rw[plain,Af0 ⟨hr,hne⟩]
 exact CT (Eb hne).1
theorem AeQ{n:Int}{xs:List Int}(h:TI n xs):xs≠[]:=by rintro rfl;exact AcD n h
theorem ABj{n:Int}{xs:List Int}(h:TI n xs):RG n (plain xs)∧AJK xs (plain xs):=by
 have hr:=AeR h
 have hne:=AeQ h
 have h1:=APr hr hne
 have h2:=AcB h h1
 refine⟨⟨AeR h2,AeQ h2,?_,h2⟩,h1⟩
 rw[AWK h1.perm hne]
 obtain⟨a,b,_,e⟩:=Hf hr hne
 rw[e];rfl
theorem RG.self{n:Int}{xs:List Int}(h:RG n xs):plain xs=xs:=(Ym h.1 h.2.1).2 h.2.2.1
theorem AON{n:Int}{xs:List Int}(h:TI n xs){t:Tok}(ht:okT n t)(hx:DS n t∈xs):∃ a,A5 xs (DS n t)=(t::a).map (DS n)∧T (t::a)∧(∀ y∈t::a,okT n y):=by
 have h1:=AcB h (CT hx)
 obtain⟨a,b,e1,e2,e3⟩:=YU hx
 obtain⟨L,q1,q2,q3⟩:=h1
 rw[e3,AgE]at q1
 cases L with
 |nil=>cases q1
 |cons t' L=>
  simp only[AgM,AgB]at q1
  have:=GF ht (q2 t' (by simp)) q1.1
  subst this
  exact⟨L,by rw[e3,AgE,AgM,q1.2],q3,q2⟩
end Go.Pev.Pl
end
section
namespace Go.Pev.Pl
open Go.RowKit Tok
theorem L3(a:Int):ieq a a=true:=by rw[Dr];simp
def Dom(rings:List (List Int)):Prop:=rings.length<1073741824∧∀ l∈rings,l.length<9223372036854775808∧∀ x∈l, -9223372036854775808≤x∧x≤9223372036854775807
theorem FR.dom{n:Int}{rings:List (List Int)}(h:FR n rings):Dom rings:=by
 have h1:=Kf.2 h
 have h2:=ATs h.sz.1 h1.2.1 (by omega) (by have:=h.sz.1;omega)
 have h3:=h.sz.2
 refine⟨by omega,fun l hl => ?_⟩
 have:=(h.rg l hl).1
 exact⟨by have:=this.1;omega,fun x hx=>by have:=this.2.1 x hx;omega⟩
theorem S2{l:List Int}(h:l≠[]):hd l∈l:=by
 cases l with
 |nil=>exact absurd rfl h
 |cons x l=>simp[hd]
end Go.Pev.Pl
end
section
namespace Go.Pev.Pl
open Tok
def Dd(n:Int)(xs:List Int):List Int:=xs.filter fun t => !decide (n≤t)
noncomputable def AJB(n:Int)(rings:List (List Int))(ok:Bool):Int:=if RF n rings then if ok then 0 else 10 else 1
theorem ASU(n:Int)(rings:List (List Int))(xs:List Int)(hs:xs.length<9223372036854775808):C1 (xs,n,rings,())=some (n,rings,xs.any (fun x=>decide (x<0)||decide (n≤x)),()):=by
 rw[IF,DC,Ik,Dh]
 have e:=Ip (step:=Be) (fun i=>(n,rings,xs,AO xs,(i:Int),())) xs (fun x=>decide (x<0)||decide (n≤x)) (fun i=>.inl (n,rings,(i:Int),())) (.inr (.inl (n,rings,()))) hs
  (fun i x hi hx=>by
   rw[Be,AN,AI,Afk hi]
   simp only[Ag hx,Al,Ap]
   rw[AH (by omega)]
   by_cases h:x<0
   ·simp[h]
   ·by_cases h2:n≤x
    ·simp[h,h2]
    ·simp[h,h2])
  (by rw[Be,AN,AI,Afj (by omega)])
 have e':AR Be many (n,rings,xs,AO xs,(0:Int),())=_:=e
 rw[e']
 generalize (xs.any fun x=>decide (x<0)||decide (n≤x))=b
 cases b<;>simp[Ap]
theorem AS4{n v:Int}(hS:Sz n):(decide (v<0)||decide (n≤v)) = !decide (In n v):=by
 by_cases h:In n v
 ·obtain⟨_,_,h3,h4⟩:=h
  simp[In,hS.1,hS.2,h3,h4]
 ·have:v<0∨n≤v:=by
   refine AgY fun hc=>h ⟨hS.1,hS.2,by omega,by omega⟩
  rcases this with g|g<;>simp[h,g]
theorem Oj(n:Int)(rings:List (List Int))(xs:List Int)(hD:Dom rings)(hs:xs.length<9223372036854775808):KQ ((n,(rings,())),xs,())=some (AJB n rings (xs.all fun v=>decide (In n v)),()):=by
 rw[AEf,QV]
 simp only[N8 n rings hD.1 hD.2,ASU n rings xs hs,AJB]
 by_cases h:RF n rings
 ·have hb:(xs.any fun x=>decide (x<0)||decide (n≤x)) = !(xs.all fun v=>decide (In n v)):=by
   rw[List.not_all_eq_any_not]
   congr 1
   funext x
   exact AS4 h.1
  simp only[h,Afx,Aft,hb,AgC]
  cases xs.all fun v=>decide (In n v)<;>rfl
 ·simp[h]
def Nm(n:Int)(A:List Int):List Int:=((List.range n.toNat).map fun(k:Nat)=>(k:Int)).filter fun v=>decide (v∈A)
theorem AUo{n:Int}{A:List Int}(v:Int):v∈Nm n A↔0≤v∧v<n∧v∈A:=by
 rw[Nm,AgW,Af7,Afn]
 constructor
 ·rintro⟨⟨k,hk,rfl⟩,h⟩
  rw[Agt]at hk
  exact⟨by omega,by omega,h⟩
 ·rintro⟨h1,h2,h3⟩
  exact⟨⟨v.toNat,by rw[Agt];omega,by omega⟩,h3⟩
theorem AJh(n:Int)(A:List Int):(Nm n A).Pairwise (· < ·):=by
 rw[Nm]
 refine Ahx _ ?_
 rw[AhF]
 exact List.pairwise_lt_range.imp fun h=>by omega
theorem AWc{n:Int}{A:List Int}(h:RG n A):(Dd n A).Perm (Nm n A):=by
 have hl:(Dd n A).Nodup:=h.1.2.2.filter _
 have hv:(Nm n A).Nodup:=(AJh n A).imp fun h=>by omega
 exact(AiM hl hv).2 fun v=>by
  rw[AUo,Dd,AgW]
  simp only[AhE,AgU]
  constructor
  ·rintro⟨h1,h2⟩
   have:=(h.1.2.1 v h1).1
   exact⟨this,by omega,h1⟩
  ·rintro⟨h1,h2,h3⟩
   exact⟨h3,by omega⟩
end Go.Pev.Pl
end
section
namespace Go.Pev.Pl.SG
open Go.Sort
structure SP(α:Type)where
 z:α
 c:α×α×Unit→Option (Int×Unit)
 ok:α→Prop
 okz:α
 Zn:ok okz
 lt:α→α→Bool
 swo:SWO lt
 AIn:∀ {x y:α},ok x→ok y→∃ r,c (x,y,())=some (r,())∧ilt r (0:Int)=lt x y
variable {α:Type} {S:SP α}
abbrev EL{α:Type}(S:SP α):={x:α // S.ok x}
instance:Inhabited (EL S):=⟨⟨S.okz,S.Zn⟩⟩
def rep(d:Array (EL S)):List α:=d.toList.map Subtype.val
theorem Ai{d:Array (EL S)}{n:Nat}(h:n<d.size):idx (rep d) (n:Int)=some (d[n]!).val:=by
 rw[idx_eq,Nh,Afv (by omega)]
 simp[rep,h]
theorem Aq{d:Array (EL S)}{n:Nat}{z:α}(h:n<d.size):AM (rep d) (AE (n:Int)) z=(d[n]!).val:=by
 simp[AM,AE,rep,h]
theorem Cu{d:Array (EL S)}{n:Nat}{x:(EL S)}:Am (rep d) (AE (n:Int)) x.val=rep (d.setIfInBounds n x):=by
 simp[Am,AE,rep,List.map_set]
theorem AId{d:Array (EL S)}:AO (rep d)=(d.size:Int):=by simp[AO,rep]
def ltX(x y:(EL S)):Bool:=S.lt x.val y.val
theorem AYs:SWO (ltX (S:=S)):=⟨fun x=>S.swo.irrefl x.val,fun x y z=>S.swo.trans x.val y.val z.val,fun x y z=>S.swo.ntrans x.val y.val z.val⟩
noncomputable def Ad3(x y:(EL S)):Int:=match S.c (x.val,y.val,())with
 |some (c,_)=>c
 |none=>0
theorem CO(x y:(EL S)):S.c (x.val,y.val,())=some (Ad3 x y,()):=by
 obtain⟨c,e,_⟩:=S.AIn x.property y.property
 rw[Ad3,e]
theorem DA(x y:(EL S)):ilt (Ad3 x y) (0:Int)=ltX x y:=by
 obtain⟨c,e,h⟩:=S.AIn x.property y.property
 rw[Ad3,e]
 exact h
theorem Ada(a b i:Nat):∀ (j:Nat) (d:Array (EL S)) (n:Nat),j<d.size→d.size<4611686018427387904→j<n →
  AQ (QD S.z S.c) n ((rep d),(a:Int),(b:Int),(i:Int),(j:Int),())=some (.inl ((rep (insInner ltX a j d)),(a:Int),(b:Int),(i:Int),())):=by
 intro j
 induction j with
 |zero=>
  intro d n hj hs hn
  obtain⟨n,rfl⟩:∃ k,n=k+1:=⟨n-1,by omega⟩
  have h0:ilt (a:Int) ((0:Nat):Int)=false:=by rw[AI];simp
  simp only[AQ,QD,h0,insInner]
 |succ j ih=>
  intro d n hj hs hn
  obtain⟨n,rfl⟩:∃ k,n=k+1:=⟨n-1,by omega⟩
  have e1:IntKind.wrap .i64 (((j+1:Nat):Int)-1)=(j:Int):=by rw[Aj (by omega)];omega
  have hj':j<d.size:=by omega
  simp only[AQ,QD,AI,e1,Ai hj,Ai hj',Aq hj,Aq hj',CO,DA,insInner,Ahm]
  by_cases h1:a<j+1
  ·cases h2:ltX d[j+1]! d[j]!
   ·simp only[h1,Afx,h2,Ahz,Afz,Af1]
   ·simp only[h1,Afx,h2,Aih,AgC,Cu]
    rw[Ai (by simpa using hj')]
    simp only[Cz]
    exact ih (swp d (j+1) j) n (by rw[size_swp];omega) (by rw[size_swp];omega) (by omega)
  ·simp only[h1,Af2,Ag7,Afz,Af1]
theorem CS(lt:(EL S)→(EL S)→Bool)(a j:Nat)(d:Array (EL S)):(insInner lt a j d).size=d.size:=by
 induction j generalizing d with
 |zero=>rfl
 |succ j ih=>
  rw[insInner]
  split
  ·rw[ih,size_swp]
  ·rfl
theorem Aa2(a b:Nat):∀ (k i:Nat) (d:Array (EL S)) (n:Nat),b-i=k→b≤d.size→d.size<4611686018427387904→d.size<many→k<n →
  AQ (QE S.z S.c) n ((rep d),(a:Int),(b:Int),(i:Int),())=some (.inl ((rep (insOuter ltX a b i d)),())):=by
 intro k
 induction k with
 |zero=>
  intro i d n hk hb hs hm hn
  obtain⟨n,rfl⟩:∃ k,n=k+1:=⟨n-1,by omega⟩
  have h0:¬ i<b:=by omega
  rw[insOuter]
  simp only[AQ,QE,AI,h0,Af2,Af1]
 |succ k ih=>
  intro i d n hk hb hs hm hn
  obtain⟨n,rfl⟩:∃ k,n=k+1:=⟨n-1,by omega⟩
  have h0:i<b:=by omega
  have e1:IntKind.wrap .i64 ((i:Int)+1)=((i+1:Nat):Int):=by rw[Aj (by omega)];omega
  rw[insOuter]
  simp only[AQ,QE,AI,h0,Afx,AgC,Ae]
  rw[Ada a b i i d many (by omega) hs (by omega)]
  simp only[e1]
  exact ih (i+1) _ n (by omega) (by rw[CS];omega) (by rw[CS];omega) (by rw[CS];omega) (by omega)
theorem Aa1(d:Array (EL S))(a b:Nat)(hab:a≤b)(hb:b≤d.size)(hs:d.size<4294967296):(Adc S.z S.c) ((rep d),(a:Int),(b:Int),())=some ((rep (insertionSort ltX d a b)),()):=by
 have hm:d.size<many:=by simp only[many];omega
 have e1:IntKind.wrap .i64 ((a:Int)+1)=((a+1:Nat):Int):=by rw[Aj (by omega)];omega
 rw[Adb,AHs]
 simp only[e1,Ae]
 rw[Aa2 a b (b-(a+1)) (a+1) d many rfl hb (by omega) hm (by omega)]
 rfl
end Go.Pev.Pl.SG
end
end
section
section
namespace Go.Pev.Pl.SG
open Go.Sort
variable {α:Type} {S:SP α}
theorem AO5(hi first:Nat):∀ (k root:Nat) (d:Array (EL S)) (n:Nat),hi-root=k→root≤hi→first+hi≤d.size→d.size<4294967296→(hi=0∨root<hi)→k<n →
  AQ (LP S.z S.c) n ((rep d),(hi:Int),(first:Int),(root:Int),())=some (.inl ((rep (siftDown ltX hi first root d)),())) ∨
  AQ (LP S.z S.c) n ((rep d),(hi:Int),(first:Int),(root:Int),())=some (.inr (.inl ((rep (siftDown ltX hi first root d)),()))):=by
 intro k
 induction k using Nat.strongRecOn with
 |_ k ih=>
 intro root d n hk hr hf hs hz hn
 obtain⟨n,rfl⟩:∃ k,n=k+1:=⟨n-1,by omega⟩
 rw[siftDown]
 simp (disch:=omega) only[AQ,LP,ADN,AH,wrap_add,Bx,AI]
 by_cases h1:hi≤2*root+1
 ·simp only[h1,Afx,ge_iff_le,dite_true,true_or]
 ·have i0:first+root<d.size:=by omega
  have i1:first+(2*root+1)<d.size:=by omega
  simp only[h1,Af2,ge_iff_le,Af1,dite_false]
  simp (disch:=omega) only[Ai,Aq,CO,DA]
  by_cases h2:2*root+1+1<hi
  ·have i2:first+(2*root+2)<d.size:=by omega
   have i3:2*root+1+1=2*root+2:=by omega
   have i4:first+(2*root+1)+1=first+(2*root+2):=by omega
   have h3:2*root+2<hi:=by omega
   simp only[i3,i4,h3,Afx]
   simp (disch:=omega) only[Ai,Aq,CO,DA,Cu]
   cases h4:ltX d[first+(2*root+1)]! d[first+(2*root+2)]!
   ·simp only[Ahz,Afz,Af1]
    cases h5:ltX d[first+root]! d[first+(2*root+1)]!
    ·simp
    ·simp only[Aft,Afz,Af1]
     rw[Ai (by simpa using i1)]
     simp only[Cz]
     exact ih (hi-(2*root+1)) (by omega) (2*root+1) _ n rfl (by omega) (by rw[size_swp];omega) (by rw[size_swp];omega) (by omega) (by omega)
   ·simp only[Aih,AgC]
    cases h5:ltX d[first+root]! d[first+(2*root+2)]!
    ·simp
    ·simp only[Aft,Afz,Af1,dite_true]
     rw[Ai (by simpa using i2)]
     simp only[Cz]
     exact ih (hi-(2*root+2)) (by omega) (2*root+2) _ n rfl (by omega) (by rw[size_swp];omega) (by rw[size_swp];omega) (by omega) (by omega)
  ·simp only[h2,Af2,Ag7,Afz,Af1,Cu]
   cases h5:ltX d[first+root]! d[first+(2*root+1)]!
   ·simp
   ·simp only[Aft,Afz,Af1]
    rw[Ai (by simpa using i1)]
    simp only[Cz]
    exact ih (hi-(2*root+1)) (by omega) (2*root+1) _ n rfl (by omega) (by rw[size_swp];omega) (by rw[size_swp];omega) (by omega) (by omega)
theorem ADj(d:Array (EL S))(root hi first:Nat)(hf:first+hi≤d.size)(hs:d.size<4294967296)(hz:hi=0∧root=0∨root<hi):(AKP S.z S.c) ((rep d),(root:Int),(hi:Int),(first:Int),())=some ((rep (siftDown ltX hi first root d)),()):=by
 have hm:d.size<many:=by simp only[many];omega
 rw[AY3,Wu]
 simp only[Ae]
 rcases AO5 hi first (hi-root) root d many rfl (by omega) hf hs (by omega) (by omega)with h|h<;>rw[h]
theorem BZ(lt:(EL S)→(EL S)→Bool)(hi first:Nat):∀ (k root:Nat) (d:Array (EL S)),hi-root=k→(siftDown lt hi first root d).size=d.size:=by
 intro k
 induction k using Nat.strongRecOn with
 |_ k ih=>
 intro root d hk
 rw[siftDown]
 split
 ·rfl
 ·split
  ·split
   ·rfl
   ·split
    ·rw[ih (hi-(2*root+2)) (by omega) _ _ rfl,size_swp]
    ·rfl
  ·split
   ·rfl
   ·rw[ih (hi-(2*root+1)) (by omega) _ _ rfl,size_swp]
theorem ANA(hi first:Nat):∀ (k:Nat) (d:Array (EL S)) (n:Nat),(hi=0∧k≤1∨k≤hi)→first+hi≤d.size→d.size<4294967296→k<n →
  AQ (L7 S.z S.c) n ((rep d),(first:Int),(0:Int),(hi:Int),(k:Int)-1,())=some (.inl ((rep (heapBuild ltX hi first k d)),(first:Int),(0:Int),(hi:Int),())):=by
 intro k
 induction k with
 |zero=>
  intro d n hk hf hs hn
  obtain⟨n,rfl⟩:∃ k,n=k+1:=⟨n-1,by omega⟩
  rw[AQ,L7,Ap,Afj (by omega)]
  rfl
 |succ k ih=>
  intro d n hk hf hs hn
  obtain⟨n,rfl⟩:∃ k,n=k+1:=⟨n-1,by omega⟩
  have e0:((k+1:Nat):Int)-1=(k:Int):=by omega
  rw[AQ,L7,e0,Ap,Afk (by omega)]
  simp only[ADj d k hi first hf hs (by omega)]
  rw[Aj (by omega)]
  exact ih _ n (by omega) (by rw[BZ _ _ _ _ _ _ rfl];omega) (by rw[BZ _ _ _ _ _ _ rfl];omega) (by omega)
theorem DH(lt:(EL S)→(EL S)→Bool)(hi first:Nat):∀ (k:Nat) (d:Array (EL S)),(heapBuild lt hi first k d).size=d.size:=by
 intro k
 induction k with
 |zero=>intro d;rfl
 |succ k ih=>intro d;rw[heapBuild,ih,BZ _ _ _ _ _ _ rfl]
theorem AXC(first:Nat):∀ (k:Nat) (d:Array (EL S)) (n:Nat),first+k≤d.size→d.size<4294967296→k<n →
  AQ (L6 S.z S.c) n ((rep d),(first:Int),(0:Int),(k:Int)-1,())=some (.inl ((rep (heapPop ltX first k d)),())):=by
 intro k
 induction k with
 |zero=>
  intro d n hf hs hn
  obtain⟨n,rfl⟩:∃ k,n=k+1:=⟨n-1,by omega⟩
  rw[AQ,L6,Ap,Afj (by omega)]
  rfl
 |succ k ih=>
  intro d n hf hs hn
  obtain⟨n,rfl⟩:∃ k,n=k+1:=⟨n-1,by omega⟩
  have e0:((k+1:Nat):Int)-1=(k:Int):=by omega
  have i0:first<d.size:=by omega
  have i1:first+k<d.size:=by omega
  rw[AQ,L6,e0,Ap,Afk (by omega)]
  simp (disch:=omega) only[wrap_add,Ai,Aq,Cu]
  rw[Ai (by simpa using i1)]
  simp only[Cz]
  have:=ADj (swp d first (first+k)) 0 k first (by rw[size_swp];omega) (by rw[size_swp];omega) (by omega)
  simp only[Int.natCast_zero]at this
  simp only[this]
  rw[Aj (by omega)]
  exact ih _ n (by rw[BZ _ _ _ _ _ _ rfl,size_swp];omega) (by rw[BZ _ _ _ _ _ _ rfl,size_swp];omega) (by omega)
theorem AXB(d:Array (EL S))(a b:Nat)(hab:a<b)(hb:b≤d.size)(hs:d.size<4294967296):(AUH S.z S.c) ((rep d),(a:Int),(b:Int),())=some ((rep (heapSort ltX d a b)),()):=by
 have hm:4294967296<many:=by simp only[many];omega
 rw[AbI,XE]
 simp (disch:=omega) only[Bc,An,AeL,Ae]
 have e:(((b-a-1)/2:Nat):Int)=(((b-a-1)/2+1:Nat):Int)-1:=by omega
 rw[e,ANA (b-a) a _ d many (by omega) (by omega) hs (by omega)]
 have e2:(((b-a-1:Nat)):Int)=((b-a:Nat):Int)-1:=by omega
 simp (disch:=omega) only[An,e2]
 rw[AXC a (b-a) _ many (by rw[DH];omega) (by rw[DH];omega) (by omega)]
 rfl
end Go.Pev.Pl.SG
end
section
namespace Go.Pev.Pl.SG
open Go.Sort
variable {α:Type} {S:SP α}
theorem AVX:∀ (k i j:Nat) (d:Array (EL S)) (n:Nat),j-i=k→(j<d.size)→d.size<4294967296→k<n →
  AQ (Wy S.z S.c) n ((rep d),(i:Int),(j:Int),())=some (.inl ((rep (reverseLoop i j d)),())):=by
 intro k
 induction k using Nat.strongRecOn with
 |_ k ih=>
 intro i j d n hk hj hs hn
 obtain⟨n,rfl⟩:∃ k,n=k+1:=⟨n-1,by omega⟩
 rw[reverseLoop,AQ,Wy]
 simp only[AI]
 by_cases h:i<j
 ·have hi:i<d.size:=by omega
  simp only[h,Afx,AgC,Ai hj,Ai hi,Aq hi,Aq hj,Cu]
  rw[Ai (by simpa using hj)]
  simp (disch:=omega) only[Cz,AH,An]
  exact ih (j-1-(i+1)) (by omega) (i+1) (j-1) _ n rfl (by rw[size_swp];omega) (by rw[size_swp];omega) (by omega)
 ·simp only[h,Af2,Af1]
theorem AZJ(d:Array (EL S))(a b:Nat)(hab:a<b)(hb:b≤d.size)(hs:d.size<4294967296):(Acn S.z S.c) ((rep d),(a:Int),(b:Int),())=some ((rep (reverseRange d a b)),()):=by
 have hm:4294967296<many:=by simp only[many];omega
 rw[Acm,AGF]
 simp (disch:=omega) only[An,Ae]
 rw[AVX (b-1-a) a (b-1) d many rfl (by omega) hs (by omega)]
 rfl
theorem Dn{d:Array (EL S)}{i j:Nat}(hi:i<d.size)(hj:j<d.size):idx (Am (rep d) (AE (i:Int)) (AM (rep d) (AE (j:Int)) S.z)) (j:Int)=some ((d.setIfInBounds i d[j]!)[j]!).val ∧
  Am (Am (rep d) (AE (i:Int)) (AM (rep d) (AE (j:Int)) S.z)) (AE (j:Int)) (AM (rep d) (AE (i:Int)) S.z)=(rep (swp d i j)):=by
 rw[Aq hi,Aq hj,Cu,Cu]
 exact⟨Ai (by simpa using hj),rfl⟩
theorem AF5(step:List α×Int×Int×Int×Unit→Option ((List α×Int×Int×Int×Unit)⊕(List α×Int×Int×Int×Unit)⊕Unit))(p:(EL S)→Bool)(d:Array (EL S))(a j:Nat)(hs:d.size<4294967296)(hj:j<d.size)
  (h:∀ i:Nat,i≤d.size→step ((rep d),(a:Int),(i:Int),(j:Int),())=if i≤j∧p d[i]! then some (.inl ((rep d),(a:Int),((i+1:Nat):Int),(j:Int),()))else some (.inr (.inl ((rep d),(a:Int),(i:Int),(j:Int),())))) :
  ∀ (k i n:Nat),j+1-i=k→i≤d.size→k<n→AQ step n ((rep d),(a:Int),(i:Int),(j:Int),())=some (.inl ((rep d),(a:Int),((scanUp p d j i:Nat):Int),(j:Int),())):=by
 intro k
 induction k using Nat.strongRecOn with
 |_ k ih=>
 intro i n hk hi hn
 obtain⟨n,rfl⟩:∃ k,n=k+1:=⟨n-1,by omega⟩
 rw[scanUp,AQ,h i hi]
 by_cases h1:i≤j∧p d[i]! = true
 ·rw[Af0 h1,Af0 (by simpa using h1)]
  exact ih (j+1-(i+1)) (by omega) (i+1) n rfl (by omega) (by omega)
 ·rw[Afv h1,Afv (by simpa using h1)]
theorem Rn(step:List α×Int×Int×Int×Unit→Option ((List α×Int×Int×Int×Unit)⊕(List α×Int×Int×Int×Unit)⊕Unit))(p:(EL S)→Bool)(d:Array (EL S))(a i:Nat)(hi:1≤i)
  (h:∀ j:Nat,j<d.size→step ((rep d),(a:Int),(i:Int),(j:Int),())=if i≤j∧p d[j]! then some (.inl ((rep d),(a:Int),(i:Int),((j-1:Nat):Int),()))else some (.inr (.inl ((rep d),(a:Int),(i:Int),(j:Int),())))) :
  ∀ (j n:Nat),j<d.size→j<n→AQ step n ((rep d),(a:Int),(i:Int),(j:Int),())=some (.inl ((rep d),(a:Int),(i:Int),((scanDown p d i j:Nat):Int),())):=by
 intro j
 induction j with
 |zero=>
  intro n hj hn
  obtain⟨n,rfl⟩:∃ k,n=k+1:=⟨n-1,by omega⟩
  rw[AQ,h 0 hj,Afv (by omega)]
  rfl
 |succ j ih=>
  intro n hj hn
  obtain⟨n,rfl⟩:∃ k,n=k+1:=⟨n-1,by omega⟩
  rw[scanDown,AQ,h (j+1) hj]
  by_cases h1:i≤j+1∧p d[j+1]! = true
  ·rw[Af0 h1,Af0 (by simpa using h1)]
   exact ih n (by omega) (by omega)
  ·rw[Afv h1,Afv (by simpa using h1)]
section
variable (d:Array (EL S)) (a i j:Nat) (hs:d.size<4294967296) (ha:a<d.size) (hj:j<d.size)
include hs ha hj
theorem AL7(hi:i≤d.size):(Pv S.z S.c) ((rep d),(a:Int),(i:Int),(j:Int),())=if i≤j∧(fun x=>ltX x d[a]!) d[i]! = true then some (.inl ((rep d),(a:Int),((i+1:Nat):Int),(j:Int),()))else some (.inr (.inl ((rep d),(a:Int),(i:Int),(j:Int),()))):=by
 rw[Pv]
 simp only[Bx]
 by_cases h:i≤j
 ·have hi':i<d.size:=by omega
  simp (disch:=omega) only[h,Afx,Ai,Aq,CO,DA,AH,AhT]
  cases ltX d[i]! d[a]!<;>simp
 ·simp only[h,Af2,AhD,Af1]
theorem AL5(hi:i≤d.size):(Ps S.z S.c) ((rep d),(a:Int),(i:Int),(j:Int),())=if i≤j∧(fun x=>ltX x d[a]!) d[i]! = true then some (.inl ((rep d),(a:Int),((i+1:Nat):Int),(j:Int),()))else some (.inr (.inl ((rep d),(a:Int),(i:Int),(j:Int),()))):=by
 rw[Ps]
 simp only[Bx]
 by_cases h:i≤j
 ·have hi':i<d.size:=by omega
  simp (disch:=omega) only[h,Afx,Ai,Aq,CO,DA,AH,AhT]
  cases ltX d[i]! d[a]!<;>simp
 ·simp only[h,Af2,AhD,Af1]
theorem AL6(hi:1≤i):(Pu S.z S.c) ((rep d),(a:Int),(i:Int),(j:Int),())=if i≤j∧(fun x => !ltX x d[a]!) d[j]! = true then some (.inl ((rep d),(a:Int),(i:Int),((j-1:Nat):Int),()))else some (.inr (.inl ((rep d),(a:Int),(i:Int),(j:Int),()))):=by
 rw[Pu]
 simp only[Bx]
 by_cases h:i≤j
 ·simp (disch:=omega) only[h,Afx,Ai,Aq,CO,DA,An,AhT]
  cases ltX d[j]! d[a]!<;>simp
 ·simp only[h,Af2,AhD,Af1]
theorem AL4(hi:1≤i):(Pr S.z S.c) ((rep d),(a:Int),(i:Int),(j:Int),())=if i≤j∧(fun x => !ltX x d[a]!) d[j]! = true then some (.inl ((rep d),(a:Int),(i:Int),((j-1:Nat):Int),()))else some (.inr (.inl ((rep d),(a:Int),(i:Int),(j:Int),()))):=by
 rw[Pr]
 simp only[Bx]
 by_cases h:i≤j
 ·simp (disch:=omega) only[h,Afx,Ai,Aq,CO,DA,An,AhT]
  cases ltX d[j]! d[a]!<;>simp
 ·simp only[h,Af2,AhD,Af1]
theorem ACq(hi:i≤d.size):(J6 S.z S.c) ((rep d),(a:Int),(i:Int),(j:Int),())=if i≤j∧(fun x => !ltX d[a]! x) d[i]! = true then some (.inl ((rep d),(a:Int),((i+1:Nat):Int),(j:Int),()))else some (.inr (.inl ((rep d),(a:Int),(i:Int),(j:Int),()))):=by
 rw[J6]
 simp only[Bx]
 by_cases h:i≤j
 ·have hi':i<d.size:=by omega
  simp (disch:=omega) only[h,Afx,Ai,Aq,CO,DA,AH,AhT]
  cases ltX d[a]! d[i]!<;>simp
 ·simp only[h,Af2,AhD,Af1]
theorem ACp(hi:1≤i):(J5 S.z S.c) ((rep d),(a:Int),(i:Int),(j:Int),())=if i≤j∧(fun x=>ltX d[a]! x) d[j]! = true then some (.inl ((rep d),(a:Int),(i:Int),((j-1:Nat):Int),()))else some (.inr (.inl ((rep d),(a:Int),(i:Int),(j:Int),()))):=by
 rw[J5]
 simp only[Bx]
 by_cases h:i≤j
 ·simp (disch:=omega) only[h,Afx,Ai,Aq,CO,DA,An,AhT]
  cases ltX d[a]! d[j]!<;>simp
 ·simp only[h,Af2,AhD,Af1]
end
theorem DI(p:(EL S)→Bool)(d:Array (EL S))(j i:Nat)(hj:j<d.size)(hi:i≤d.size):scanUp p d j i≤d.size:=by
 suffices h:∀ (k i:Nat),j+1-i=k→i≤d.size→scanUp p d j i≤d.size from h _ i rfl hi
 intro k
 induction k using Nat.strongRecOn with
 |_ k ih=>
 intro i hk hi
 rw[scanUp]
 split
 ·rename_i h
  have:i≤j:=by simp at h;exact h.1
  exact ih (j+1-(i+1)) (by omega) (i+1) rfl (by omega)
 ·exact hi
theorem AQQ(a:Nat):∀ (k i j:Nat) (d:Array (EL S)) (n:Nat),j+1-i=k→a<d.size→1≤i→i≤d.size→j<d.size→d.size<4294967296→k<n →
  AQ (Pt S.z S.c) n ((rep d),(a:Int),(i:Int),(j:Int),())=some (.inl ((rep (partLoop ltX a i j d).2),(a:Int),(((partLoop ltX a i j d).1:Nat):Int),()))∧(partLoop ltX a i j d).1≤j∧(partLoop ltX a i j d).2.size=d.size:=by
 intro k
 induction k using Nat.strongRecOn with
 |_ k ih=>
 intro i j d n hk ha hi hi' hj hs hn
 have hm:4294967296<many:=by simp only[many];omega
 obtain⟨n,rfl⟩:∃ k,n=k+1:=⟨n-1,by omega⟩
 rw[partLoop_eq,AQ,Pt]
 have u1:=scanUp_ge (fun x=>ltX x d[a]!) d j i
 have u2:=DI (fun x=>ltX x d[a]!) d j i hj hi'
 rw[Ae,AF5 _ (fun x=>ltX x d[a]!) d a j hs hj (fun i h=>AL5 d a i j hs ha hj h) _ i many rfl hi' (by omega)]
 generalize scanUp (fun x=>ltX x d[a]!) d j i=i2 at *
 have v1:=scanDown_le (fun x => !ltX x d[a]!) d i2 j
 simp only[Ae]
 rw[Rn _ (fun x => !ltX x d[a]!) d a i2 (by omega) (fun j h=>AL4 d a i2 j hs ha h (by omega)) j many hj (by omega)]
 generalize scanDown (fun x => !ltX x d[a]!) d i2 j=j2 at *
 simp only[AI]
 by_cases h:j2<i2
 ·simp only[h,Afx,Ahm,AgC]
  exact⟨trivial,v1,trivial⟩
 ·have hi2:i2<d.size:=by omega
  have hj2:j2<d.size:=by omega
  simp only[h,Af2,Ahm,Af1,Ai hi2,Ai hj2,(Dn hi2 hj2).1,(Dn hi2 hj2).2]
  simp (disch:=omega) only[AH,An]
  obtain⟨q1,q2,q3⟩:=ih (j2-1+1-(i2+1)) (by omega) (i2+1) (j2-1) (swp d i2 j2) n rfl (by rw[size_swp];omega) (by omega) (by rw[size_swp];omega) (by rw[size_swp];omega) (by rw[size_swp];omega) (by omega)
  exact⟨q1,by omega,by rw[q3,size_swp]⟩
theorem AV1(d:Array (EL S))(a b p:Nat)(ha:a≤p)(hp:p<b)(hb:b≤d.size)(hs:d.size<4294967296):
  (AD9 S.z S.c) ((rep d),(a:Int),(b:Int),(p:Int),())=some ((rep (partition ltX d a b p).2.2),(((partition ltX d a b p).1:Nat):Int),(partition ltX d a b p).2.1,()):=by
 have hm:4294967296<many:=by simp only[many];omega
 have ha':a<d.size:=by omega
 have hp':p<d.size:=by omega
 rw[AaK,W3,partition]
 simp only[Ai ha',Ai hp',(Dn ha' hp').1,(Dn ha' hp').2]
 have hs':=hs
 rw[← size_swp d a p]at ha' hs' hb
 generalize swp d a p=d at *
 simp (disch:=omega) only[AH,An,Ae]
 have u1:=scanUp_ge (fun x=>ltX x d[a]!) d (b-1) (a+1)
 have u2:=DI (fun x=>ltX x d[a]!) d (b-1) (a+1) (by omega) (by omega)
 rw[AF5 _ (fun x=>ltX x d[a]!) d a (b-1) hs' (by omega) (fun i h=>AL7 d a i (b-1) hs' ha' (by omega) h) _ (a+1) many rfl (by omega) (by omega)]
 generalize scanUp (fun x=>ltX x d[a]!) d (b-1) (a+1)=i2 at *
 have v1:=scanDown_le (fun x => !ltX x d[a]!) d i2 (b-1)
 simp only[]
 rw[Rn _ (fun x => !ltX x d[a]!) d a i2 (by omega) (fun j h=>AL6 d a i2 j hs' ha' h (by omega)) (b-1) many (by omega) (by omega)]
 generalize scanDown (fun x => !ltX x d[a]!) d i2 (b-1)=j2 at *
 simp only[AI]
 have hj2:j2<d.size:=by omega
 by_cases h:j2<i2
 ·simp only[h,Afx,Ahm,AgC,Ai ha',Ai hj2,(Dn hj2 ha').1,(Dn hj2 ha').2]
 ·have hi2:i2<d.size:=by omega
  simp only[h,Af2,Ahm,Af1,Ai hi2,Ai hj2,(Dn hi2 hj2).1,(Dn hi2 hj2).2]
  simp (disch:=omega) only[AH,An]
  obtain⟨q1,q2,q3⟩:=AQQ a (j2-1+1-(i2+1)) (i2+1) (j2-1) (swp d i2 j2) many rfl (by rw[size_swp];omega) (by omega) (by rw[size_swp];omega) (by rw[size_swp];omega) (by rw[size_swp];omega) (by omega)
  simp only[q1]
  rw[size_swp]at q3
  generalize partLoop ltX a (i2+1) (j2-1) (swp d i2 j2)=r at *
  have h1:r.1<r.2.size:=by omega
  have h2:a<r.2.size:=by omega
  simp only[Ai h1,Ai h2,(Dn h1 h2).1,(Dn h1 h2).2]
theorem AG4(a:Nat):∀ (k i j:Nat) (d:Array (EL S)) (n:Nat),j+1-i=k→a<d.size→1≤i→i≤d.size→j<d.size→d.size<4294967296→k<n →
  AQ (J7 S.z S.c) n ((rep d),(a:Int),(i:Int),(j:Int),())=some (.inl ((rep (partEqLoop ltX a i j d).2),(((partEqLoop ltX a i j d).1:Nat):Int),())):=by
 intro k
 induction k using Nat.strongRecOn with
 |_ k ih=>
 intro i j d n hk ha hi hi' hj hs hn
 have hm:4294967296<many:=by simp only[many];omega
 obtain⟨n,rfl⟩:∃ k,n=k+1:=⟨n-1,by omega⟩
 rw[partEqLoop_eq,AQ,J7]
 have u1:=scanUp_ge (fun x => !ltX d[a]! x) d j i
 have u2:=DI (fun x => !ltX d[a]! x) d j i hj hi'
 rw[Ae,AF5 _ (fun x => !ltX d[a]! x) d a j hs hj (fun i h=>ACq d a i j hs ha hj h) _ i many rfl hi' (by omega)]
 generalize scanUp (fun x => !ltX d[a]! x) d j i=i2 at *
 have v1:=scanDown_le (fun x=>ltX d[a]! x) d i2 j
 simp only[Ae]
 rw[Rn _ (fun x=>ltX d[a]! x) d a i2 (by omega) (fun j h=>ACp d a i2 j hs ha h (by omega)) j many hj (by omega)]
 generalize scanDown (fun x=>ltX d[a]! x) d i2 j=j2 at *
 simp only[AI]
 by_cases h:j2<i2
 ·simp only[h,Afx,Ahm,AgC]
 ·have hi2:i2<d.size:=by omega
  have hj2:j2<d.size:=by omega
  simp only[h,Af2,Ahm,Af1,Ai hi2,Ai hj2,(Dn hi2 hj2).1,(Dn hi2 hj2).2]
  simp (disch:=omega) only[AH,An]
  exact ih (j2-1+1-(i2+1)) (by omega) (i2+1) (j2-1) (swp d i2 j2) n rfl (by rw[size_swp];omega) (by omega) (by rw[size_swp];omega) (by rw[size_swp];omega) (by rw[size_swp];omega) (by omega)
theorem AMB(d:Array (EL S))(a b p:Nat)(ha:a≤p)(hp:p<b)(hb:b≤d.size)(hs:d.size<4294967296):
  (W4 S.z S.c) ((rep d),(a:Int),(b:Int),(p:Int),())=some ((rep (partitionEqual ltX d a b p).2),(((partitionEqual ltX d a b p).1:Nat):Int),()):=by
 have hm:4294967296<many:=by simp only[many];omega
 have ha':a<d.size:=by omega
 have hp':p<d.size:=by omega
 rw[AQe,My,partitionEqual]
 simp only[Ai ha',Ai hp',(Dn ha' hp').1,(Dn ha' hp').2]
 have hs':=hs
 rw[← size_swp d a p]at ha' hs' hb
 generalize swp d a p=d at *
 simp (disch:=omega) only[AH,An,Ae]
 rw[AG4 a _ (a+1) (b-1) d many rfl ha' (by omega) (by omega) (by omega) hs' (by omega)]
end Go.Pev.Pl.SG
end
section
namespace Go.Pev.Pl.SG
open Go.Sort
variable {α:Type} {S:SP α}
theorem Ek(d:Array (EL S))(b:Nat):∀ (k i:Nat),b-i=k→i≤b→i≤scanSorted ltX d b i∧scanSorted ltX d b i≤b:=by
 intro k
 induction k using Nat.strongRecOn with
 |_ k ih=>
 intro i hk hi
 rw[scanSorted]
 split
 ·rename_i h
  have:i<b:=by simp at h;exact h.1
  have:=ih (b-(i+1)) (by omega) (i+1) rfl (by omega)
  omega
 ·omega
theorem ACe(d:Array (EL S))(a b s:Nat)(hb:b≤d.size)(hs:d.size<4294967296):∀ (k i n:Nat),b-i=k→1≤i→i≤b→k<n →
  AQ (IY S.z S.c) n ((rep d),(a:Int),(b:Int),(i:Int),(s:Int),())=some (.inl ((rep d),(a:Int),(b:Int),((scanSorted ltX d b i:Nat):Int),(s:Int),())):=by
 intro k
 induction k using Nat.strongRecOn with
 |_ k ih=>
 intro i n hk h1 hi hn
 obtain⟨n,rfl⟩:∃ k,n=k+1:=⟨n-1,by omega⟩
 rw[scanSorted,AQ,IY]
 simp only[AI]
 by_cases h:i<b
 ·have i0:i<d.size:=by omega
  have i1:i-1<d.size:=by omega
  simp (disch:=omega) only[h,Afx,An,AH,Ai,Aq,CO,DA,Ah6]
  cases h2:ltX d[i]! d[i-1]!
  ·simp only[AgD,AgC]
   exact ih (b-(i+1)) (by omega) (i+1) n rfl (by omega) (by omega) (by omega)
  ·simp only[Aft,Afz,Af1]
 ·simp only[h,Af2,Ag7,Afz,Af1]
theorem ACg(a b i s:Nat):∀ (j:Nat) (d:Array (EL S)) (n:Nat),j<d.size→d.size<4294967296→j<n →
  AQ (GP S.z S.c) n ((rep d),(a:Int),(b:Int),(i:Int),(s:Int),(j:Int),())=some (.inl ((rep (shiftDown ltX j d)),(a:Int),(b:Int),(i:Int),(s:Int),())):=by
 intro j
 induction j with
 |zero=>
  intro d n hj hs hn
  obtain⟨n,rfl⟩:∃ k,n=k+1:=⟨n-1,by omega⟩
  rw[AQ,GP,Ap,Afj (by omega)]
  rfl
 |succ j ih=>
  intro d n hj hs hn
  obtain⟨n,rfl⟩:∃ k,n=k+1:=⟨n-1,by omega⟩
  have hj':j<d.size:=by omega
  rw[shiftDown,AQ,GP,Ap,Afk (by omega)]
  simp (disch:=omega) only[An,Nat.add_sub_cancel,Ai,Aq,CO,DA]
  cases h2:ltX d[j+1]! d[j]!
  ·simp only[AgD,AgC]
  ·have e1:=Dn hj hj'
   simp only[Aq hj,Aq hj']at e1
   simp only[Aft,Afz,Af1,e1]
   exact ih _ n (by rw[size_swp];omega) (by rw[size_swp];omega) (by omega)
theorem UZ(a b i s:Nat):∀ (k j:Nat) (d:Array (EL S)) (n:Nat),b-j=k→1≤j→b≤d.size→d.size<4294967296→k<n →
  AQ (GO S.z S.c) n ((rep d),(a:Int),(b:Int),(i:Int),(s:Int),(j:Int),())=some (.inl ((rep (shiftUp ltX b j d)),(a:Int),(b:Int),(i:Int),(s:Int),())):=by
 intro k
 induction k using Nat.strongRecOn with
 |_ k ih=>
 intro j d n hk h1 hb hs hn
 obtain⟨n,rfl⟩:∃ k,n=k+1:=⟨n-1,by omega⟩
 rw[shiftUp,AQ,GO]
 simp only[AI]
 by_cases h:j<b
 ·have i0:j<d.size:=by omega
  have i1:j-1<d.size:=by omega
  simp (disch:=omega) only[h,Afx,AgC,An,AH,Ai,Aq,CO,DA]
  cases h2:ltX d[j]! d[j-1]!
  ·simp only[AgD,AgC]
  ·have e1:=Dn i0 i1
   simp only[Aq i0,Aq i1]at e1
   simp only[Aft,Afz,Af1,e1]
   exact ih (b-(j+1)) (by omega) (j+1) _ n rfl (by omega) (by rw[size_swp];omega) (by rw[size_swp];omega) (by omega)
 ·simp only[h,Af2,Af1]
theorem Hb:∀ (j:Nat) (d:Array (EL S)),(shiftDown ltX j d).size=d.size:=by
 intro j
 induction j with
 |zero=>intro d;rfl
 |succ j ih=>
  intro d
  rw[shiftDown]
  split
  ·rfl
  ·rw[ih,size_swp]
theorem B7(b:Nat):∀ (k j:Nat) (d:Array (EL S)),b-j=k→(shiftUp ltX b j d).size=d.size:=by
 intro k
 induction k using Nat.strongRecOn with
 |_ k ih=>
 intro j d hk
 rw[shiftUp]
 split
 ·split
  ·rfl
  ·rw[ih (b-(j+1)) (by omega) (j+1) _ rfl,size_swp]
 ·rfl
theorem ACf(a b:Nat)(hab:a<b):∀ (k i s:Nat) (d:Array (EL S)) (n:Nat),s+k=5→a+1≤i→i≤b→b≤d.size→d.size<4294967296→k<n →
  AQ (Ci S.z S.c) n ((rep d),(a:Int),(b:Int),(i:Int),(s:Int),())=some (.inl ((rep (partialIns ltX a b k i d).1),(partialIns ltX a b k i d).2,())) ∨
  ((partialIns ltX a b k i d).2=false∧AQ (Ci S.z S.c) n ((rep d),(a:Int),(b:Int),(i:Int),(s:Int),())=some (.inr (.inl ((rep (partialIns ltX a b k i d).1),())))):=by
 intro k
 induction k with
 |zero=>
  intro i s d n hk h1 hi hb hs hn
  obtain⟨n,rfl⟩:∃ k,n=k+1:=⟨n-1,by omega⟩
  rw[AQ,Ci,Al,Afj (by omega)]
  exact .inr ⟨rfl,rfl⟩
 |succ k ih=>
  intro i s d n hk h1 hi hb hs hn
  have hm:4294967296<many:=by simp only[many];omega
  have es:IntKind.wrap .i64 ((s:Int)+1)=((s+1:Nat):Int):=AH (by omega)
  obtain⟨n,rfl⟩:∃ k,n=k+1:=⟨n-1,by omega⟩
  rw[AQ,Ci,Al,Afk (by omega),partialIns]
  simp only[Ae,ACe d a b s hb hs (b-i) i many rfl (by omega) hi (by omega)]
  have hsc:=Ek d b _ i rfl hi
  generalize scanSorted ltX d b i=i2 at *
  simp only[QJ]
  by_cases h2:i2=b
  ·simp only[h2,Afx,AgC,true_or]
  ·simp (disch:=omega) only[h2,Af2,Af1,Bc,Al,Ap]
   by_cases h3:b-a<50
   ·rw[Af0 h3,Afk (by omega)]
    exact .inl rfl
   ·have i0:i2<d.size:=by omega
    have i1:i2-1<d.size:=by omega
    rw[Afv h3,Afj (by omega)]
    simp (disch:=omega) only[An,AH,Ai i0,Ai i1,(Dn i0 i1).1,(Dn i0 i1).2]
    have hsz:=size_swp d i2 (i2-1)
    generalize swp d i2 (i2-1)=d2 at *
    by_cases h4:i2-a≥2
    ·rw[Af0 h4,Afk (show(2:Int)≤((i2-a:Nat):Int) by omega)]
     simp only[ACg a b i2 s (i2-1) d2 many (by omega) (by omega) (by omega)]
     have hsz2:=Hb (i2-1) d2
     generalize shiftDown ltX (i2-1) d2=d3 at *
     simp (disch:=omega) only[Bc,AH]
     by_cases h5:b-i2≥2
     ·rw[Af0 h5,Afk (show(2:Int)≤((b-i2:Nat):Int) by omega)]
      simp only[UZ a b i2 s _ (i2+1) d3 many rfl (by omega) (by omega) (by omega) (by omega)]
      simp only[es]
      exact ih i2 (s+1) (shiftUp ltX b (i2+1) d3) n (by omega) (by omega) (by omega) (by rw[B7 b (b-(i2+1)) (i2+1) _ rfl];omega) (by rw[B7 b (b-(i2+1)) (i2+1) _ rfl];omega) (by omega)
     ·rw[Afv h5,Afj (show ¬ (2:Int)≤((b-i2:Nat):Int) by omega)]
      simp only[es]
      exact ih i2 (s+1) d3 n (by omega) (by omega) (by omega) (by omega) (by omega) (by omega)
    ·rw[Afv h4,Afj (show ¬ (2:Int)≤((i2-a:Nat):Int) by omega)]
     by_cases h5:b-i2≥2
     ·rw[Af0 h5,Afk (show(2:Int)≤((b-i2:Nat):Int) by omega)]
      simp only[UZ a b i2 s _ (i2+1) d2 many rfl (by omega) (by omega) (by omega) (by omega)]
      simp only[es]
      exact ih i2 (s+1) (shiftUp ltX b (i2+1) d2) n (by omega) (by omega) (by omega) (by rw[B7 b (b-(i2+1)) (i2+1) _ rfl];omega) (by rw[B7 b (b-(i2+1)) (i2+1) _ rfl];omega) (by omega)
     ·rw[Afv h5,Afj (show ¬ (2:Int)≤((b-i2:Nat):Int) by omega)]
      simp only[es]
      exact ih i2 (s+1) d2 n (by omega) (by omega) (by omega) (by omega) (by omega) (by omega)
theorem AGw(d:Array (EL S))(a b:Nat)(hab:a<b)(hb:b≤d.size)(hs:d.size<4294967296):
  (Pp S.z S.c) ((rep d),(a:Int),(b:Int),())=some ((rep (partialInsertionSort ltX d a b).1),(partialInsertionSort ltX d a b).2,()):=by
 have hm:4294967296<many:=by simp only[many];omega
 rw[ALj,J4,partialInsertionSort]
 simp (disch:=omega) only[AH,Ae]
 have h:=ACf a b hab 5 (a+1) 0 d many rfl (Afw _) (by omega) hb hs (by omega)
 rcases h with h|⟨h0,h⟩
 ·have h':AQ (Ci S.z S.c) many ((rep d),(a:Int),(b:Int),((a+1:Nat):Int),(0:Int),())=_:=h
  rw[h']
 ·have h':AQ (Ci S.z S.c) many ((rep d),(a:Int),(b:Int),((a+1:Nat):Int),(0:Int),())=_:=h
  rw[h',h0]
theorem Ln(d:Array (EL S))(a b:Nat)(s:Int)(ha:a<d.size)(hb:b<d.size):
  ∃ s' p q,(M3 S.z S.c) ((rep d),(a:Int),(b:Int),s,())=some ((rep d),s',((p:Nat):Int),((q:Nat):Int),())∧(p=a∧q=b∨p=b∧q=a):=by
 rw[AQg,M0]
 simp only[Ai ha,Ai hb,Aq ha,Aq hb,CO,DA]
 cases ltX d[b]! d[a]!
 ·exact⟨_,a,b,rfl,.inl ⟨rfl,rfl⟩⟩
 ·exact⟨_,b,a,rfl,.inr ⟨rfl,rfl⟩⟩
theorem Lt(d:Array (EL S))(a b c:Nat)(s:Int)(ha:a<d.size)(hb:b<d.size)(hc:c<d.size):
  ∃ s' p,(M9 S.z S.c) ((rep d),(a:Int),(b:Int),(c:Int),s,())=some ((rep d),s',((p:Nat):Int),())∧(p=a∨p=b∨p=c):=by
 rw[AQ6,M8]
 obtain⟨s1,p1,q1,e1,h1⟩:=Ln d a b s ha hb
 simp only[e1]
 obtain⟨s2,p2,q2,e2,h2⟩:=Ln d q1 c s1 (by omega) hc
 simp only[e2]
 obtain⟨s3,p3,q3,e3,h3⟩:=Ln d p1 p2 s2 (by omega) (by omega)
 simp only[e3]
 exact⟨_,q3,rfl,by omega⟩
theorem Lv(d:Array (EL S))(a:Nat)(s:Int)(h1:1≤a)(ha:a+1<d.size)(hs:d.size<4294967296):
  ∃ s' p,(NC S.z S.c) ((rep d),(a:Int),s,())=some ((rep d),s',((p:Nat):Int),())∧a≤p+1∧p≤a+1:=by
 rw[AQ8,NB]
 simp (disch:=omega) only[An,AH]
 obtain⟨s1,p1,e1,h1⟩:=Lt d (a-1) a (a+1) s (by omega) (by omega) ha
 simp only[e1]
 exact⟨_,p1,rfl,by omega⟩
theorem AP6(d:Array (EL S))(a b:Nat)(hab:a+8≤b)(hb:b≤d.size)(hs:d.size<4294967296):
  ∃ p h,(AGX S.z S.c) ((rep d),(a:Int),(b:Int),())=some ((rep d),((p:Nat):Int),h,())∧a≤p∧p<b:=by
 rw[AVj,Pj]
 simp (disch:=omega) only[Bc,T5,ADM,ER,ADL,wrap_add,Ap]
 rw[Afk (show(8:Int)≤((b-a:Nat):Int) by omega)]
 simp only[]
 by_cases h:50≤b-a
 ·rw[Afk (show(50:Int)≤((b-a:Nat):Int) by omega)]
  simp only[]
  obtain⟨s1,p1,e1,h1⟩:=Lv d (a+(b-a)/4*1) 0 (by omega) (by omega) hs
  simp only[e1]
  obtain⟨s2,p2,e2,h2⟩:=Lv d (a+(b-a)/4*2) s1 (by omega) (by omega) hs
  simp only[e2]
  obtain⟨s3,p3,e3,h3⟩:=Lv d (a+(b-a)/4*3) s2 (by omega) (by omega) hs
  simp only[e3]
  obtain⟨s4,p4,e4,h4⟩:=Lt d p1 p2 p3 s3 (by omega) (by omega) (by omega)
  simp only[e4]
  cases ieq s4 0
  ·cases ieq s4 12
   ·exact⟨p4,_,rfl,by omega,by omega⟩
   ·exact⟨p4,_,rfl,by omega,by omega⟩
  ·exact⟨p4,_,rfl,by omega,by omega⟩
 ·rw[Afj (show ¬ (50:Int)≤((b-a:Nat):Int) by omega)]
  simp only[]
  obtain⟨s4,p4,e4,h4⟩:=Lt d (a+(b-a)/4*1) (a+(b-a)/4*2) (a+(b-a)/4*3) 0 (by omega) (by omega) (by omega)
  simp only[e4]
  cases ieq s4 0
  ·cases ieq s4 12
   ·exact⟨p4,_,rfl,by omega,by omega⟩
   ·exact⟨p4,_,rfl,by omega,by omega⟩
  ·exact⟨p4,_,rfl,by omega,by omega⟩
end Go.Pev.Pl.SG
end
section
namespace Go.Pev.Pl
open Go.Sort
theorem AWl:(List.range 256).all (fun k=>match Gl[k]? with
  |some v=>decide (0≤v)&&(decide (v≤8)&&decide (2 ^ v.toNat≤max 1 (2*k)))
  |none=>false)=true:=by decide +kernel
theorem AWm{k:Nat}(h:k<256):∃ v:Nat,idx Gl (k:Int)=some (v:Int)∧v≤8∧2 ^ v≤max 1 (2*k):=by
 have:=Af9.1 AWl k (Agt.2 h)
 rw[idx_eq,Nh,Afv (by omega),Agd]
 cases e:Gl[k]? with
 |none=>rw[e]at this;cases this
 |some v=>
  rw[e]at this
  simp only[Afq,Afn]at this
  exact⟨v.toNat,by rw[Int.toNat_of_nonneg this.1],by omega,this.2.2⟩
theorem Wv(n s:Nat)(h:s≤64):shr? .u64 (n:Int) (s:Int)=some ((n/2 ^ s:Nat):Int):=by
 rw[AO7,X3,Afv (by omega),Agd,show min s (IntKind.bits .u64)=s from Agm h,Int.fdiv_eq_ediv_of_nonneg _ (Int.pow_nonneg (by omega))]
 rfl
theorem u8_in{n:Int}(h:0≤n∧n≤255):IntKind.wrap .u8 n=n:=IntWalk.u8_in n h
theorem u64_in{n:Int}(h:0≤n∧n≤18446744073709551615):IntKind.wrap .u64 n=n:=IntWalk.u64_in n h
theorem AWn(n:Nat)(hn:n<4294967296):∃ v:Nat,AMn ((n:Int),())=some ((v:Int),())∧v≤32∧2 ^ v≤max 1 (2*n):=by
 rw[AMm,XB,Ap,Afj (by omega)]
 simp only[Ap]
 have key:∀ (s m:Nat),s≤24→m<256→m*2 ^ s≤n→(s=0∨1≤m)→∃ v:Nat,idx Gl (m:Int)=some (v:Int)∧v≤8∧2 ^ (s+v)≤max 1 (2*n):=by
  intro s m hs hm hle h1
  obtain⟨v,e,h8,hp⟩:=AWm hm
  refine⟨v,e,h8,?_⟩
  rcases h1 with rfl|h1
  ·rw[Ago];simp at hle;omega
  ·have h2:2 ^ v≤2*m:=by omega
   have h3:2 ^ (s+v)≤2*(m*2 ^ s):=by
    rw[Nat.pow_add,Nat.mul_comm (2 ^ s),← Nat.mul_assoc]
    exact Agi _ h2
   omega
 by_cases h1:65536≤n
 ·rw[Afk (show(65536:Int)≤(n:Int) by omega)]
  have e16:shr? .u64 (n:Int) 16=some ((n/65536:Nat):Int):=Wv n 16 (by omega)
  simp only[e16]
  by_cases h2:256≤n/65536
  ·rw[Afk (show(256:Int)≤((n/65536:Nat):Int) by omega)]
   have e8:shr? .u64 ((n/65536:Nat):Int) 8=some ((n/65536/256:Nat):Int):=Wv _ 8 (by omega)
   obtain⟨v,e,h8,hp⟩:=key 24 (n/65536/256) (by omega) (by omega) (by omega) (by omega)
   simp only[e8]
   rw[u8_in (by omega)]
   simp only[e]
   refine⟨24+v,?_,by omega,hp⟩
   rw[Aj (n:=0+16) (by omega),Aj (n:=(0:Int)+16+8) (by omega),Aj (n:=(v:Int)) (by omega),Aj (by omega)]
   congr 2
  ·rw[Afj (show ¬ (256:Int)≤((n/65536:Nat):Int) by omega)]
   obtain⟨v,e,h8,hp⟩:=key 16 (n/65536) (by omega) (by omega) (by omega) (by omega)
   simp only[]
   rw[u8_in (by omega)]
   simp only[e]
   refine⟨16+v,?_,by omega,hp⟩
   rw[Aj (n:=0+16) (by omega),Aj (n:=(v:Int)) (by omega),Aj (by omega)]
   congr 2
 ·rw[Afj (show ¬ (65536:Int)≤(n:Int) by omega)]
  by_cases h2:256≤n
  ·have e8:shr? .u64 (n:Int) 8=some ((n/256:Nat):Int):=Wv n 8 (by omega)
   obtain⟨v,e,h8,hp⟩:=key 8 (n/256) (by omega) (by omega) (by omega) (by omega)
   simp only[]
   rw[Afk (show(256:Int)≤(n:Int) by omega)]
   simp only[e8]
   rw[u8_in (by omega)]
   simp only[e]
   refine⟨8+v,?_,by omega,hp⟩
   rw[Aj (n:=0+8) (by omega),Aj (n:=(v:Int)) (by omega),Aj (by omega)]
   congr 2
  ·obtain⟨v,e,h8,hp⟩:=key 0 n (by omega) (by omega) (by omega) (by omega)
   simp only[]
   rw[Afj (show ¬ (256:Int)≤(n:Int) by omega)]
   simp only[]
   rw[u8_in (by omega)]
   simp only[e]
   refine⟨0+v,?_,by omega,hp⟩
   rw[Aj (n:=(v:Int)) (by omega),Aj (by omega)]
   congr 2
theorem MS(n:Nat)(hn:n<4294967296):∃ v:Nat,bitsLen ((n:Int),())=some ((v:Int),())∧v≤32∧2 ^ v≤max 1 (2*n):=by
 rw[ABe,NS]
 obtain⟨v,e,h⟩:=AWn n hn
 simp only[e]
 exact⟨v,rfl,h⟩
theorem VB(n:Nat)(h1:1≤n)(hn:n<4294967296):∃ m:Nat,M5 ((n:Int),())=some ((m:Int),())∧1≤m∧m≤2*n:=by
 rw[Zp,M4,u64_in (by omega)]
 obtain⟨v,e,h32,hp⟩:=MS n hn
 simp only[e]
 have e2:shl? .u64 (1:Int) (v:Int)=some ((2 ^ v:Nat):Int):=by
  rw[AF1,WA,Afv (by omega),Agd,show min v (IntKind.bits .u64)=v from Agm (by show v≤64;omega),Int.one_mul]
  have:2 ^ v≤2 ^ 32:=Nat.pow_le_pow_right (by omega) h32
  have h1:1≤2 ^ v:=Nat.one_le_two_pow
  have e:((2:Int) ^ v)=((2 ^ v:Nat):Int):=by simp
  rw[e,u64_in (by constructor<;>omega)]
 simp only[e2]
 exact⟨2 ^ v,rfl,Nat.one_le_two_pow,by omega⟩
theorem Tw(r:Int):∃ r' y,xorNext (r,())=some (r',y,()):=by
 rw[XT,Mh,AF1,WA,Afv (by omega)]
 simp only[]
 rw[AO7,X3,Afv (by omega)]
 simp only[]
 rw[AF1,WA,Afv (by omega)]
 exact⟨_,_,rfl⟩
theorem AMC(y:Int)(m:Nat)(h1:1≤m)(hm:m<18446744073709551616):∃ o:Nat,IntKind.wrap .u64 ((BitVec.ofInt (IntKind.bits .u64) y &&& BitVec.ofInt (IntKind.bits .u64) (IntKind.wrap .u64 ((m:Int)-1))).toNat)=(o:Int)∧o<m:=by
 rw[u64_in (n:=(m:Int)-1) (by omega),show(m:Int)-1=((m-1:Nat):Int) by omega,BitVec.toNat_and]
 have h2:(BitVec.ofInt (IntKind.bits .u64) ((m-1:Nat):Int)).toNat=m-1:=by
  rw[BitVec.ofInt_natCast,BitVec.toNat_ofNat]
  exact Aik (by show m-1<18446744073709551616;omega)
 rw[h2]
 have h3:(BitVec.ofInt (IntKind.bits .u64) y).toNat &&& (m-1)≤m-1:=Nat.and_le_right
 exact⟨_,u64_in (by omega),by omega⟩
end Go.Pev.Pl
end
section
namespace Go.Pev.Pl.SG
open Go.Sort
variable {α:Type} {S:SP α}
theorem AOF(a b:Nat)(m:Nat)(h8:a+8≤b)(hm1:1≤m)(hm:m≤2*(b-a)):∀ (k t:Nat) (d:Array (EL S)) (r:Int) (n:Nat),t+k=3→b≤d.size→d.size<4294967296→k<n →
  ∃ d':Array (EL S),AQ (HM S.z S.c) n ((rep d),(a:Int),((b-a:Nat):Int),r,(m:Int),((a+(b-a)/4*2-1+t:Nat):Int),())=some (.inl ((rep d'),()))∧PermIn a b d d':=by
 intro k
 induction k with
 |zero=>
  intro t d r n hk hb hs hn
  obtain⟨n,rfl⟩:∃ k,n=k+1:=⟨n-1,by omega⟩
  rw[AQ,HM]
  simp (disch:=omega) only[T5,ER,wrap_add,AH,Bx]
  rw[Afj (by omega)]
  exact⟨d,rfl,permIn_refl d a b⟩
 |succ k ih=>
  intro t d r n hk hb hs hn
  obtain⟨n,rfl⟩:∃ k,n=k+1:=⟨n-1,by omega⟩
  rw[AQ,HM]
  simp (disch:=omega) only[T5,ER,wrap_add,AH,Bx]
  rw[Afk (show a+(b-a)/4*2-1+t≤a+(b-a)/4*2+1 by omega)]
  obtain⟨r',y,e⟩:=Tw r
  obtain⟨o,e2,ho⟩:=AMC y m hm1 (by omega)
  simp only[e,e2]
  rw[Aj (n:=(o:Int)) (by omega)]
  simp only[Bx]
  have i0:a+(b-a)/4*2-1+t<d.size:=by omega
  have fin:∀ q:Nat,a≤q→q<b→∃ d':Array (EL S),AQ (HM S.z S.c) n ((rep (swp d (a+(b-a)/4*2-1+t) q)),(a:Int),((b-a:Nat):Int),r',(m:Int),((a+(b-a)/4*2-1+t+1:Nat):Int),())=some (.inl ((rep d'),()))∧PermIn a b d d':=by
   intro q hq1 hq2
   obtain⟨d',e',hp⟩:=ih (t+1) (swp d (a+(b-a)/4*2-1+t) q) r' n (by omega) (by rw[size_swp];omega) (by rw[size_swp];omega) (by omega)
   exact⟨d',e',permIn_trans _ _ _ a b (swp_permIn d a b _ q (by omega) (by omega) hq1 hq2 hb) hp⟩
  by_cases h:b-a≤o
  ·have i1:a+(o-(b-a))<d.size:=by omega
   simp (disch:=omega) only[h,Afx,Bc,wrap_add,AH,Ai i0,Ai i1,(Dn i0 i1).1,(Dn i0 i1).2]
   exact fin _ (by omega) (by omega)
  ·have i1:a+o<d.size:=by omega
   simp (disch:=omega) only[h,Af2,Bc,wrap_add,AH,Ai i0,Ai i1,(Dn i0 i1).1,(Dn i0 i1).2]
   exact fin _ (by omega) (by omega)
theorem ASt(d:Array (EL S))(a b:Nat)(hab:a≤b)(hb:b≤d.size)(hs:d.size<4294967296):
  ∃ d':Array (EL S),(AI5 S.z S.c) ((rep d),(a:Int),(b:Int),())=some ((rep d'),())∧PermIn a b d d':=by
 have hm:4294967296<many:=by simp only[many];omega
 rw[AX6,Qt]
 simp (disch:=omega) only[Bc,Ap]
 by_cases h:8≤b-a
 ·rw[Afk (show(8:Int)≤((b-a:Nat):Int) by omega)]
  obtain⟨m,e,h1,h2⟩:=VB (b-a) (by omega) (by omega)
  simp only[e]
  rw[u64_in (n:=((b-a:Nat):Int)) (by omega)]
  simp (disch:=omega) only[T5,ER,wrap_add,An,Ae]
  obtain⟨d',e2,hp⟩:=AOF a b m (by omega) h1 h2 3 0 d ((b-a:Nat):Int) many rfl hb hs (by omega)
  rw[AhG]at e2
  simp only[e2]
  exact⟨d',rfl,hp⟩
 ·rw[Afj (show ¬ (8:Int)≤((b-a:Nat):Int) by omega)]
  exact⟨d,rfl,permIn_refl d a b⟩
end Go.Pev.Pl.SG
end
section
namespace Go.Pev.Pl.SG
open Go.Sort
variable {α:Type} {S:SP α}
abbrev AUa(α:Type):=List α×Int×Int×Int×Bool×Bool×Unit
abbrev HA(α:Type):=AUa α⊕(List α×Unit)⊕Unit
def IL(d:Array (EL S))(a b:Nat):HA α→Prop
 |.inl (xs,x,y,l,_,_,_)=>∃ (e:Array (EL S)) (i j:Nat),xs=(rep e)∧x=(i:Int)∧y=(j:Int)∧0≤l∧l≤100∧i≤j∧j≤e.size∧e.size=d.size∧j-i<b-a∧Below ltX i j e ∧
   ∀ R,PermIn i j e R→SortedIn ltX i j R→PermIn a b d R∧SortedIn ltX a b R
 |.inr (.inl (xs,_))=>∃ R:Array (EL S),xs=(rep R)∧PermIn a b d R∧SortedIn ltX a b R
 |.inr (.inr _)=>False
def Bg(self:(List α×Int×Int×Int×Unit)→Option ((List α×Unit)))(m:Nat):Prop:=
 ∀ (d:Array (EL S)) (a b:Nat) (l:Int),a≤b→b≤d.size→d.size<4294967296→0≤l→l≤100→Below ltX a b d→2*(b-a)<m →
  ∃ R:Array (EL S),self ((rep d),(a:Int),(b:Int),l,())=some ((rep R),())∧PermIn a b d R∧SortedIn ltX a b R
section
variable {self:(List α×Int×Int×Int×Unit)→Option ((List α×Unit))} {d:Array (EL S)} {a b:Nat} {l:Int}
theorem La(hself:Bg (S:=S) self (b-a))(hb:b≤d.size)(hs:d.size<4294967296)(hl:0≤l∧l≤100)
  {d3:Array (EL S)} {p:Nat} (P3:PermIn a b d d3) (B3:Below ltX a b d3) (hp1:a≤p) (hp2:p<b) :
  ∃ o,(match(AD9 S.z S.c) ((rep d3),(a:Int),(b:Int),(p:Int),())with
  |none=>none
  |some (y20,y21,y22,_)=>match quo? .i64 (IntKind.wrap .i64 ((b:Int)-(a:Int))) (8:Int)with
   |none=>none
   |some x23=>match(ilt (IntKind.wrap .i64 (y21-(a:Int))) (IntKind.wrap .i64 ((b:Int)-y21)))with
    |true=>match self (y20,(a:Int),y21,l,())with
     |none=>none
     |some (y24,_)=>some ((.inl (y24,(IntKind.wrap .i64 (y21+(1:Int))),(b:Int),l,(ile x23 (IntKind.wrap .i64 (y21-(a:Int)))),y22,())):HA α)
    |false=>match self (y20,(IntKind.wrap .i64 (y21+(1:Int))),(b:Int),l,())with
     |none=>none
     |some (y25,_)=>some (.inl (y25,(a:Int),y21,l,(ile x23 (IntKind.wrap .i64 ((b:Int)-y21))),y22,())))=some o∧IL d a b o:=by
 have b3:b≤d3.size:=by rw[P3.1];exact hb
 have s3:d3.size<4294967296:=by rw[P3.1];exact hs
 rw[AV1 d3 a b p hp1 hp2 b3 s3]
 rcases hx:partition ltX d3 a b p with⟨mid,ap,d4⟩
 obtain⟨g1,g2,hs4,hBa,hBr,hleft,hright⟩:=round_part AYs (partition_holds _) hp1 hp2 b3 B3 hx
 simp (disch:=omega) only[Bc,AH,AeK,AI]
 have b4:b≤d4.size:=by omega
 by_cases h:mid-a<b-mid
 ·obtain⟨L,e,l1,l2⟩:=hself d4 a mid l g1 (by omega) (by omega) hl.1 hl.2 hBa (by omega)
  simp only[h,Afx,e]
  obtain⟨hBL,hfin⟩:=hleft _ l1 l2
  refine⟨_,rfl,L,mid+1,b,rfl,rfl,rfl,hl.1,hl.2,by omega,by rw[l1.1];exact b4,by rw[l1.1,hs4,P3.1],by omega,hBL,fun R r1 r2 => ?_⟩
  obtain⟨q1,q2⟩:=hfin R r1 r2
  exact⟨permIn_trans _ _ _ a b P3 q1,q2⟩
 ·obtain⟨L,e,l1,l2⟩:=hself d4 (mid+1) b l (by omega) (by omega) (by omega) hl.1 hl.2 hBr (by omega)
  simp only[h,Af2,e]
  obtain⟨hBL,hfin⟩:=hright _ l1 l2
  refine⟨_,rfl,L,a,mid,rfl,rfl,rfl,hl.1,hl.2,by omega,by rw[l1.1];omega,by rw[l1.1,hs4,P3.1],by omega,hBL,fun R r1 r2 => ?_⟩
  obtain⟨q1,q2⟩:=hfin R r1 r2
  exact⟨permIn_trans _ _ _ a b P3 q1,q2⟩
theorem Em(hself:Bg (S:=S) self (b-a))(hb:b≤d.size)(hs:d.size<4294967296)(hl:0≤l∧l≤100)
  {d3:Array (EL S)} {p:Nat} (wb wp:Bool) (P3:PermIn a b d d3) (B3:Below ltX a b d3) (hp1:a≤p) (hp2:p<b) :
  ∃ o,(R7 S.z S.c) self (rep d3) (a:Int) (b:Int) (p:Int) l wb wp=some o∧IL d a b o:=by
 have b3:b≤d3.size:=by rw[P3.1];exact hb
 have s3:d3.size<4294967296:=by rw[P3.1];exact hs
 rw[R7,Al]
 by_cases h0:0<a
 ·rw[Afk (by omega)]
  have i0:a-1<d3.size:=by omega
  have i1:p<d3.size:=by omega
  simp (disch:=omega) only[An,Ai,Aq,CO,DA]
  cases hc:ltX d3[a-1]! d3[p]!
  ·simp only[AgD]
   rw[AMB d3 a b p hp1 hp2 b3 s3]
   rcases hx:partitionEqual ltX d3 a b p with⟨mid,d4⟩
   obtain⟨hm1,hm2,hs4,hB4,hfin⟩:=round_eq AYs (partitionEqual_holds _) h0 hp1 hp2 b3 B3 hc hx
   refine⟨_,rfl,d4,mid,b,rfl,rfl,rfl,hl.1,hl.2,by omega,by omega,by rw[hs4,P3.1],by omega,hB4,fun R r1 r2 => ?_⟩
   obtain⟨q1,q2⟩:=hfin R r1 r2
   exact⟨permIn_trans _ _ _ a b P3 q1,q2⟩
  ·simp only[Aft]
   exact La hself hb hs hl P3 B3 hp1 hp2
 ·rw[Afj (by omega)]
  exact La hself hb hs hl P3 B3 hp1 hp2
theorem Pn(hself:Bg (S:=S) self (b-a))(hab:a<b)(hb:b≤d.size)(hs:d.size<4294967296)(hl:0≤l∧l≤100)
  {d3:Array (EL S)} {p:Nat} (h:Int) (wb wp:Bool) (P3:PermIn a b d d3) (B3:Below ltX a b d3) (hp1:a≤p) (hp2:p<b) :
  ∃ o,(AGn S.z S.c) self (rep d3) (a:Int) (b:Int) (p:Int) h l wb wp=some o∧IL d a b o:=by
 have b3:b≤d3.size:=by rw[P3.1];exact hb
 have s3:d3.size<4294967296:=by rw[P3.1];exact hs
 unfold AGn
 cases wb
 ·exact Em hself hb hs hl _ _ P3 B3 hp1 hp2
 ·cases wp
  ·exact Em hself hb hs hl _ _ P3 B3 hp1 hp2
  ·simp only[]
   cases ieq h 1
   ·exact Em hself hb hs hl _ _ P3 B3 hp1 hp2
   ·simp only[]
    rw[AGw d3 a b hab b3 s3]
    obtain⟨q1,q2⟩:=partialInsertionSort_holds (lt:=ltX) AYs d3 a b hab b3 B3
    rcases hx:partialInsertionSort ltX d3 a b with⟨d4,fin⟩
    rw[hx]at q1 q2
    have P4:PermIn a b d d4:=permIn_trans _ _ _ a b P3 q1
    cases fin
    ·exact Em hself hb hs hl _ _ P4 (B3.perm b3 q1) hp1 hp2
    ·exact⟨_,rfl,d4,rfl,P4,q2 rfl⟩
theorem Pm(hself:Bg (S:=S) self (b-a))(hab:a+8≤b)(hb:b≤d.size)(hs:d.size<4294967296)(hl:0≤l∧l≤100)
  {d3:Array (EL S)} (wb wp:Bool) (P3:PermIn a b d d3) (B3:Below ltX a b d3) :
  ∃ o,(AGm S.z S.c) self (rep d3) (a:Int) (b:Int) l wb wp=some o∧IL d a b o:=by
 have b3:b≤d3.size:=by rw[P3.1];exact hb
 have s3:d3.size<4294967296:=by rw[P3.1];exact hs
 rw[AGm]
 obtain⟨p,h,e,hp1,hp2⟩:=AP6 d3 a b hab b3 s3
 simp only[e]
 cases ieq h 2
 ·exact Pn hself (by omega) hb hs hl h _ _ P3 B3 hp1 hp2
 ·simp only[AZJ d3 a b (by omega) b3 s3]
  have q1:=reverseRange_holds (α:=(EL S)) d3 a b (by omega) b3
  simp (disch:=omega) only[An,Bc]
  exact Pn hself (by omega) hb hs hl 1 _ _ (permIn_trans _ _ _ a b P3 q1) (B3.perm b3 q1) (by omega) (by omega)
theorem R5(hself:Bg (S:=S) self (b-a))(hab:a≤b)(hb:b≤d.size)(hs:d.size<4294967296)(hl:0≤l∧l≤100)(wb wp:Bool)(B:Below ltX a b d):
  ∃ o,(Po S.z S.c) self ((rep d),(a:Int),(b:Int),l,wb,wp,())=some o∧IL d a b o:=by
 rw[Po]
 simp (disch:=omega) only[Bc,Ap,Dr]
 by_cases h12:b-a≤12
 ·rw[Afk (show((b-a:Nat):Int)≤12 by omega)]
  simp only[Aa1 d a b hab hb hs]
  obtain⟨q1,q2⟩:=insertionSort_holds (lt:=ltX) AYs d a b hab hb
  exact⟨_,rfl,_,rfl,q1,q2⟩
 ·rw[Afj (show ¬ ((b-a:Nat):Int)≤12 by omega)]
  simp only[]
  by_cases h0:l=0
  ·subst h0
   simp only[BEq.rfl,AXB d a b (by omega) hb hs]
   obtain⟨q1,q2⟩:=heapSort_holds (lt:=ltX) AYs d a b hab hb
   exact⟨_,rfl,_,rfl,q1,q2⟩
  ·rw[show(l==0)=false by simpa using h0]
   simp only[]
   cases wb
   ·obtain⟨d',e,q1⟩:=ASt d a b hab hb hs
    simp only[AgD,e]
    rw[Aj (by omega)]
    exact Pm hself (by omega) hb hs (by omega) _ _ q1 (B.perm hb q1)
   ·simp only[Aft]
    exact Pm hself (by omega) hb hs hl _ _ (permIn_refl d a b) B
end
theorem Lb{self:(List α×Int×Int×Int×Unit)→Option ((List α×Unit))}{m:Nat}(hself:Bg (S:=S) self m):∀ (k:Nat) (d:Array (EL S)) (a b:Nat) (l:Int) (wb wp:Bool) (n:Nat),b-a=k→k≤m→a≤b→b≤d.size→d.size<4294967296→0≤l→l≤100→Below ltX a b d→k<n →
  ∃ R:Array (EL S),AQ ((Po S.z S.c) self) n ((rep d),(a:Int),(b:Int),l,wb,wp,())=some (.inl ((rep R),()))∧PermIn a b d R∧SortedIn ltX a b R:=by
 intro k
 induction k using Nat.strongRecOn with
 |_ k ih=>
 intro d a b l wb wp n hk hm hab hb hs hl1 hl2 B hn
 obtain⟨n,rfl⟩:∃ k,n=k+1:=⟨n-1,by omega⟩
 have hself':Bg (S:=S) self (b-a):=fun d a' b' l h1 h2 h3 h4 h5 h6 h7=>hself d a' b' l h1 h2 h3 h4 h5 h6 (by omega)
 obtain⟨o,e,ho⟩:=R5 hself' hab hb hs ⟨hl1,hl2⟩ wb wp B
 rw[AQ,e]
 match o,ho with
 |.inl (xs,x,y,l',wb',wp',_),ho=>
  obtain⟨e',i,j,rfl,rfl,rfl,g1,g2,g3,g4,g5,g6,g7,hfin⟩:=ho
  obtain⟨R,e2,r1,r2⟩:=ih (j-i) (by omega) e' i j l' wb' wp' n rfl (by omega) g3 g4 (by omega) g1 g2 g7 (by omega)
  exact⟨R,e2,hfin R r1 r2⟩
 |.inr (.inl (xs,_)),ho=>
  obtain⟨R,rfl,r1,r2⟩:=ho
  exact⟨R,rfl,r1,r2⟩
theorem R6:∀ k:Nat,Bg (S:=S) ((Lc S.z S.c) (k+1)) (2 ^ k):=by
 intro k
 have hmany:4294967296<many:=by simp only[many];omega
 induction k with
 |zero=>
  intro d a b l h1 h2 h3 h4 h5 h6 h7
  have:Bg (S:=S) ((Lc S.z S.c) 0) 0:=fun _ _ _ _ _ _ _ _ _ _ h=>by omega
  obtain⟨R,e,r1,r2⟩:=Lb this (b-a) d a b l true true many rfl (by omega) h1 h2 h3 h4 h5 h6 (by omega)
  refine⟨R,?_,r1,r2⟩
  rw[Lc,AGo]
  simp only[Ae,e]
 |succ k ih=>
  intro d a b l h1 h2 h3 h4 h5 h6 h7
  have hp:2 ^ (k+1)=2*2 ^ k:=by rw[Nat.pow_succ];omega
  obtain⟨R,e,r1,r2⟩:=Lb ih (b-a) d a b l true true many rfl (by omega) h1 h2 h3 h4 h5 h6 (by omega)
  refine⟨R,?_,r1,r2⟩
  rw[Lc,AGo]
  simp only[Ae,e]
theorem Xy{α:Type}(S:SP α)(xs:List α)(h:xs.length<4294967296)(hok:∀ x∈xs,S.ok x):∃ ys,(AYw S.z S.c) (xs,())=some (ys,())∧ys.Perm xs∧ys.Pairwise fun x y=>S.lt y x=false:=by
 obtain⟨d,rfl⟩:∃ d:Array (EL S),xs=rep d:=by
  refine⟨(xs.attach.map fun x=>⟨x.val,hok x.val x.property⟩).toArray,?_⟩
  simp only[rep,List.map_map]
  exact(List.attach_map_subtype_val xs).symm
 have hl:(rep d).length=d.size:=by simp[rep]
 rw[hl]at h
 rw[AYv,Ws]
 rw[AId,u64_in (by omega)]
 obtain⟨v,e,hv,_⟩:=MS d.size h
 simp only[e]
 obtain⟨R,e2,r1,r2⟩:=R6 99 d 0 d.size (v:Int) (by omega) (by omega) h (by omega) (by omega) (.inl rfl) (by
  have:2 ^ 99=633825300114114700748351602688:=by decide
  omega)
 have e3:(Ac3 S.z S.c) (rep d,(0:Int),(d.size:Int),(v:Int),())=some (rep R,()):=by rw[Ac2];exact e2
 refine⟨rep R,by simp only[e3],?_,?_⟩
 ·obtain⟨hsz,_,hp⟩:=r1
  have e1:R.extract 0 d.size=R:=by rw[← hsz];exact Array.extract_size
  rw[e1,Array.extract_size]at hp
  exact hp.map _
 ·rw[rep,AhF,Agr]
  intro i j hi hj hij
  have hi':i<R.size:=by simpa using hi
  have hj':j<R.size:=by simpa using hj
  have:=r2 i j (Ah9 _) hij (by rw[← r1.1];omega)
  rw[getElem!_pos R j hj',getElem!_pos R i hi']at this
  simpa [ltX]using this
end Go.Pev.Pl.SG
end
section
namespace Go.Pev.Pl.SL
open Go.Sort
def ok(l:List Int):Prop:=l≠[]
def okz:List Int:=[0]
theorem Zn:ok okz:=by simp[ok,okz]
def lt(x y:List Int):Bool:=ltInt (x.headD 0) (y.headD 0)
theorem swo:SWO lt:=⟨fun x=>swo_ltInt.irrefl _,fun x y z=>swo_ltInt.trans _ _ _,fun x y z=>swo_ltInt.ntrans _ _ _⟩
theorem AIn{x y:List Int}(hx:ok x)(hy:ok y):∃ c,BE (x,y,())=some (c,())∧ilt c (0:Int)=lt x y:=by
 cases x with
 |nil=>exact absurd rfl hx
 |cons a x=>
  cases y with
  |nil=>exact absurd rfl hy
  |cons b y=>
   rw[AJe,Wk]
   have i1:idx (a::x) (0:Int)=some a:=by rw[idx_eq];rfl
   have i2:idx (b::y) (0:Int)=some b:=by rw[idx_eq];rfl
   simp only[i1,i2,MN,IH,W7,SV]
   simp only[Dr,Al,lt,AiR,ltInt]
   by_cases h:a<b
   ·simp[h]
   ·by_cases h2:b<a
    ·simp[h,h2]
    ·simp[h,h2]
noncomputable def S:SG.SP (List Int):=⟨([]:List (Int)),BE,ok,okz,Zn,lt,swo,fun h1 h2=>AIn h1 h2⟩
theorem Xy(xs:List (List Int))(h:xs.length<4294967296)(hok:∀ x∈xs,ok x):∃ ys,AKD (xs,())=some (ys,())∧ys.Perm xs∧ys.Pairwise fun x y=>lt y x=false:=SG.Xy S xs h hok
end Go.Pev.Pl.SL
end
end
section
namespace Go.Pev.Pl
abbrev Edge:=Int×Int×Unit
inductive Con(l:List Edge):Int→Int→Prop
 |refl (a:Int):Con l a a
 |edge (e:Edge):e∈l→Con l e.1 e.2.1
 |symm {a b:Int}:Con l a b→Con l b a
 |trans {a b c:Int}:Con l a b→Con l b c→Con l a c
theorem Con.mono{l l':List Edge}(h:∀ e∈l,∃ e'∈l',(e'.1=e.1∧e'.2.1=e.2.1)∨(e'.1=e.2.1∧e'.2.1=e.1)){a b:Int}(c:Con l a b):Con l' a b:=by
 induction c with
 |refl a=>exact .refl a
 |edge e he=>
  obtain⟨e',h1,h2|h2⟩:=h e he
  ·have:=Con.edge e' h1
   rw[h2.1,h2.2]at this
   exact this
  ·have:=Con.edge e' h1
   rw[h2.1,h2.2]at this
   exact this.symm
 |symm _ ih=>exact ih.symm
 |trans _ _ ih1 ih2=>exact ih1.trans ih2
theorem Con.snoc{l:List Edge}{e:Edge}{a b:Int}:Con (l++[e]) a b↔Con l a b∨(Con l a e.1∧Con l e.2.1 b)∨(Con l a e.2.1∧Con l e.1 b):=by
 constructor
 ·intro h
  induction h with
  |refl a=>exact .inl (.refl a)
  |edge e' he=>
   rcases Afo.1 he with h|h
   ·exact .inl (.edge e' h)
   ·simp only[AgF]at h
    subst h
    exact .inr (.inl ⟨.refl _,.refl _⟩)
  |symm _ ih=>
   rcases ih with h|⟨h1,h2⟩|⟨h1,h2⟩
   ·exact .inl h.symm
   ·exact .inr (.inr ⟨h2.symm,h1.symm⟩)
   ·exact .inr (.inl ⟨h2.symm,h1.symm⟩)
  |trans _ _ ih1 ih2=>
   rcases ih1 with h|⟨h1,h2⟩|⟨h1,h2⟩
   ·rcases ih2 with g|⟨g1,g2⟩|⟨g1,g2⟩
    ·exact .inl (h.trans g)
    ·exact .inr (.inl ⟨h.trans g1,g2⟩)
    ·exact .inr (.inr ⟨h.trans g1,g2⟩)
   ·rcases ih2 with g|⟨g1,g2⟩|⟨g1,g2⟩
    ·exact .inr (.inl ⟨h1,h2.trans g⟩)
    ·exact .inr (.inl ⟨h1,g2⟩)
    ·exact .inl (h1.trans g2)
   ·rcases ih2 with g|⟨g1,g2⟩|⟨g1,g2⟩
    ·exact .inr (.inr ⟨h1,h2.trans g⟩)
    ·exact .inl (h1.trans g2)
    ·exact .inr (.inr ⟨h1,g2⟩)
 ·have up:∀ {x y},Con l x y→Con (l++[e]) x y:=fun h=>h.mono fun e' he=>⟨e',by simp[he],.inl ⟨rfl,rfl⟩⟩
  have he:Con (l++[e]) e.1 e.2.1:=.edge e (by simp)
  rintro (h|⟨h1,h2⟩|⟨h1,h2⟩)
  ·exact up h
  ·exact(up h1).trans (he.trans (up h2))
  ·exact(up h1).trans (he.symm.trans (up h2))
theorem Con.nil{a b:Int}(h:Con [] a b):a=b:=by
 induction h with
 |refl a=>rfl
 |edge e he=>cases he
 |symm _ ih=>exact ih.symm
 |trans _ _ ih1 ih2=>exact ih1.trans ih2
theorem Con.within{l:List Edge}{I:Int→Prop}(h:∀ e∈l,I e.1∧I e.2.1){a b:Int}(c:Con l a b):a=b∨(I a∧I b):=by
 induction c with
 |refl a=>exact .inl rfl
 |edge e he=>exact .inr (h e he)
 |symm _ ih=>
  rcases ih with h|h
  ·exact .inl h.symm
  ·exact .inr ⟨h.2,h.1⟩
 |trans _ _ ih1 ih2=>
  rcases ih1 with rfl|h1
  ·exact ih2
  ·rcases ih2 with rfl|h2
   ·exact .inr h1
   ·exact .inr ⟨h1.1,h2.2⟩
theorem Con.const{l:List Edge}{f:Int→Int}(h:∀ e∈l,f e.1=f e.2.1){a b:Int}(c:Con l a b):f a=f b:=by
 induction c with
 |refl a=>rfl
 |edge e he=>exact h e he
 |symm _ ih=>exact ih.symm
 |trans _ _ ih1 ih2=>exact ih1.trans ih2
end Go.Pev.Pl
end
section
section
namespace Go.Pev.Pl
open Tok
def Cd{α:Type}(P:Nat→Bool):Nat→List α→List α
 |_,[]=>[]
 |i,x::xs=>if P i then Cd P (i+1) xs else x::Cd P (i+1) xs
theorem ANo{α:Type}(P:Nat→Bool):∀ (xs:List α) (s:Nat),(∀ k,s≤k→P k=false)→Cd P s xs=xs:=by
 intro xs
 induction xs with
 |nil=>intro s _;rfl
 |cons x xs ih=>
  intro s h
  rw[Cd,h s (Afw _),ih (s+1) fun k hk=>h k (by omega)]
  rfl
theorem ASN{α:Type}(P:Nat→Bool)(i:Nat):∀ (xs:List α) (s:Nat),s≤i→(∀ k,s≤k→P k=decide (k=i))→Cd P s xs=xs.eraseIdx (i-s):=by
 intro xs
 induction xs with
 |nil=>intro s _ _;rfl
 |cons x xs ih=>
  intro s hs h
  rw[Cd,h s (Afw _)]
  by_cases e:s=i
  ·subst e
   rw[ANo P xs (s+1) fun k hk=>by rw[h k (by omega)];simp;omega]
   simp
  ·rw[ih (s+1) (by omega) fun k hk=>h k (by omega)]
   rw[Afj e,Afv (by simp),show i-s=(i-(s+1))+1 by omega,Ah5]
theorem KW{α:Type}(P:Nat→Bool)(i j:Nat)(hij:i<j):∀ (xs:List α) (s:Nat),s≤i→(∀ k,s≤k→P k=decide (k=i∨k=j))→Cd P s xs=(xs.eraseIdx (j-s)).eraseIdx (i-s):=by
 intro xs
 induction xs with
 |nil=>intro s _ _;rfl
 |cons x xs ih=>
  intro s hs h
  rw[Cd,h s (Afw _)]
  by_cases e:s=i
  ·subst e
   rw[ASN P j xs (s+1) (by omega) fun k hk=>by rw[h k (by omega)];exact AhM.2 ⟨fun q=>by omega,fun q=>.inr q⟩]
   rw[Afk (.inl rfl),Af0 rfl,show j-s=(j-(s+1))+1 by omega,Ah5,AhZ,List.eraseIdx_zero]
   rfl
  ·rw[ih (s+1) (by omega) fun k hk=>h k (by omega)]
   rw[Afj (by omega),Afv (by simp),show j-s=(j-(s+1))+1 by omega,Ah5,show i-s=(i-(s+1))+1 by omega,Ah5]
theorem ANp{α:Type}(P:Nat→Bool):∀ (xs:List α) (acc:List α) (k:Nat),(xs.foldl (fun(a:List α×Nat) x=>(if P a.2 then a.1 else a.1++[x],a.2+1)) (acc,k)).1=acc++Cd P k xs:=by
 intro xs
 induction xs with
 |nil=>intro acc k;simp[Cd]
 |cons x xs ih=>
  intro acc k
  rw[Agg,ih,Cd]
  cases P k<;>simp
theorem ASO{α:Type}(P:Nat→Bool):∀ (xs:List α) (k:Nat),(Cd P k xs).length≤xs.length∧∀ x∈Cd P k xs,x∈xs:=by
 intro xs
 induction xs with
 |nil=>intro k;simp[Cd]
 |cons x xs ih=>
  intro k
  obtain⟨h1,h2⟩:=ih (k+1)
  rw[Cd]
  split
  ·exact⟨by simp only[Afu];omega,fun y hy=>AgA _ (h2 y hy)⟩
  ·refine⟨by simp only[Afu];omega,fun y hy => ?_⟩
   rcases Afr.1 hy with rfl|hy
   ·simp
   ·exact AgA _ (h2 y hy)
theorem ADO(n:Int)(rings:List (List Int))(away:List Int)(come:List (List Int))(hlen:rings.length<1073741824)(ha:away.length<1073741824)(hc:come.length<1073741824)
  (hne:∀ l∈rings,l≠[]) (hce:∀ r∈come,plain r≠[]) :
  ∃ ys,AJq ((n,(rings,())),away,come,())=some (n,ys,())∧ys.Perm (Cd (fun k=>decide ((k:Int)∈away)) 0 rings++come.map plain)∧ys.Pairwise (fun a b=>¬ hd b<hd a):=by
 rw[AJp,Wl]
 have e:=Ch (step:=HS) (fun i (a:List (List Int)×Nat)=>(away,come,n,rings,(0:Int),a.1,rings,AO rings,(i:Int),())) rings
  (fun x a=>.inl (if decide ((a.2:Int)∈away)then a.1 else a.1++[x],a.2+1)) (fun a=>.inl (come,n,rings,(0:Int),a.1,())) (fun i a=>a.2=i∧a.1.length≤i) (by omega)
  (fun i x a hi hx ⟨h1,h2⟩=>by
   refine⟨fun m' h' => ?_,fun r h'=>by cases h'⟩
   cases h'
   subst h1
   rw[HS,AN,AI,Afk hi]
   simp only[Ag hx,GG away _ (show away.length<9223372036854775808 by omega)]
   rw[AH (by omega),BI (by simp only[AN,Afu,Af6];omega)]
   by_cases h:(a.2:Int)∈away
   ·simp only[h,Afx,Aft,AgC]
    exact⟨by trivial,by trivial,by omega⟩
   ·simp only[h,Af2,AgD]
    exact⟨by trivial,by trivial,by simp;omega⟩)
  (fun a _=>by rw[HS,AN,AI,Afj (by omega)]) ([],0) ⟨rfl,by simp⟩
 have e':AR HS many (away,come,n,rings,(0:Int),[],rings,AO rings,(0:Int),())=_:=e
 rw[e',BL]
 have hdf:(rings.foldl (fun(a:List (List Int)×Nat) x=>(if decide ((a.2:Int)∈away)then a.1 else a.1++[x],a.2+1)) ([],0)).1=Cd (fun k=>decide ((k:Int)∈away)) 0 rings:=by
  have:=ANp (fun k=>decide ((k:Int)∈away)) rings [] 0
  rw[AgJ]at this
  exact this
 simp only[hdf]
 obtain⟨g1,g2⟩:=ASO (fun k=>decide ((k:Int)∈away)) rings 0
 generalize Cd (fun k=>decide ((k:Int)∈away)) 0 rings=rest at *
 have f:=Ch (step:=HR) (fun i (a:List (List Int))=>(n,rings,(0:Int),a,come,AO come,(i:Int),())) come
  (fun x a=>.inl (a++[plain x])) (fun a=>.inl (n,rings,(0:Int),a,())) (fun i a=>a.length=rest.length+i) (by omega)
  (fun i x a hi hx h1=>by
   refine⟨fun m' h' => ?_,fun r h'=>by cases h'⟩
   cases h'
   rw[HR,AN,AI,Afk hi]
   simp only[Ag hx,APG]
   rw[AH (by omega),BI (by simp only[AN,Afu,Af6];omega)]
   exact⟨rfl,by simp;omega⟩)
  (fun a _=>by rw[HR,AN,AI,Afj (by omega)]) rest rfl
 have f':AR HR many (n,rings,(0:Int),rest,come,AO come,(0:Int),())=_:=f
 rw[f',BL]
 have hfold:∀ (l acc:List (List Int)),l.foldl (fun a x=>a++[plain x]) acc=acc++l.map plain:=by
  intro l
  induction l with
  |nil=>intro acc;simp
  |cons x l ih=>intro acc;rw[Agg,ih];simp
 simp only[hfold]
 obtain⟨ys,y1,y2,y3⟩:=SL.Xy (rest++come.map plain) (by simp;omega) (fun x hx=>by
  rcases Afo.1 hx with h|h
  ·exact hne x (g2 x h)
  ·obtain⟨r,hr,rfl⟩:=Af7.1 h
   exact hce r hr)
 refine⟨ys,by simp only[y1],y2,y3.imp fun {a b} h => ?_⟩
 simp only[SL.lt,Go.Sort.ltInt,AgU]at h
 exact h
def Yc(rest:List (List Int))(p:List Int):List (List Int):=rest.take (rest.findIdx fun x => !decide (hd x<hd p))++p::rest.drop (rest.findIdx fun x => !decide (hd x<hd p))
theorem AD0(rest:List (List Int))(p:List Int):(Yc rest p).Perm (p::rest):=by
 rw[Yc]
 refine List.perm_middle.trans ?_
 rw[Agc]
theorem ATa{rest:List (List Int)}{p:List Int}(h:rest.Pairwise (fun a b=>hd a<hd b))(hne:∀ x∈rest,hd x≠hd p):(Yc rest p).Pairwise (fun a b=>hd a<hd b):=by
 rw[Yc]
 have hlt:∀ x∈rest.take (rest.findIdx fun x => !decide (hd x<hd p)),hd x<hd p:=by
  intro x hx
  obtain⟨j,hj,e⟩:=Ahn.1 hx
  have:=List.not_of_lt_findIdx (p:=fun x => !decide (hd x<hd p)) (xs:=rest) (i:=j) (by omega)
  rw[e]at this
  simpa using this
 have hgt:∀ x∈rest.drop (rest.findIdx fun x => !decide (hd x<hd p)),hd p<hd x:=by
  intro x hx
  by_cases hk:(rest.findIdx fun x => !decide (hd x<hd p))<rest.length
  ·have h0:=List.findIdx_getElem (p:=fun x => !decide (hd x<hd p)) (xs:=rest) (w:=hk)
   rw[AgX hk]at hx
   have h1:¬ hd rest[rest.findIdx fun x => !decide (hd x<hd p)]<hd p:=by simpa using h0
   have h2:=hne _ (Ag0 hk)
   rcases Afr.1 hx with rfl|hx
   ·omega
   ·have hpw:(rest.drop (rest.findIdx fun x => !decide (hd x<hd p))).Pairwise (fun a b=>hd a<hd b):=h.sublist (List.drop_sublist _ _)
    rw[AgX hk,AgZ]at hpw
    have:=hpw.1 x hx
    omega
  ·rw[Agv (by omega)]at hx
   cases hx
 rw[AiJ,AgZ]
 refine⟨h.sublist (List.take_sublist _ _),⟨hgt,h.sublist (List.drop_sublist _ _)⟩,fun a ha b hb => ?_⟩
 rcases Afr.1 hb with rfl|hb
 ·exact hlt a ha
 ·have:=hlt a ha
  have:=hgt b hb
  omega
theorem AUF{l:List Int}(h:l≠[]):idx l (0:Int)=some (hd l):=by
 cases l with
 |nil=>exact absurd rfl h
 |cons x l=>rw[Eu];rfl
theorem Abl(l:List Int):AM l 0 (0:Int)=hd l:=by cases l<;>rfl
end Go.Pev.Pl
end
section
namespace Go.Pev.Pl
open Tok
theorem AJC{n u v:Int}(h:okT n (.arc u v)):n≤Dt n u v:=by rw[E8 h];exact(XK h.1 h.2.1).1
def A8(n:Int)(A B:List Int)(u v:Int):List Int:=u::Dt n u v::(A5 B v++Dt n v u::(A5 A u).tail)
theorem ND{n u v:Int}{A B:List Int}(hA:TI n A)(hB:TI n B)(hu:u∈A)(hv:v∈B)(iu:In n u)(iv:In n v)(hd:Dis n A B):
  TI n (A8 n A B u v)∧A5 A u=u::(A5 A u).tail∧(∀ t,t<n→(t∈A8 n A B u v↔t∈A∨t∈B))∧u≠v∧okT n (.arc u v):=by
 obtain⟨a,a1,a2,a3⟩:=AON hA (t:=.ver u) iu hu
 obtain⟨b,b1,b2,b3⟩:=AON hB (t:=.ver v) iv hv
 have a1':A5 A u=(Tok.ver u::a).map (DS n):=a1
 have b1':A5 B v=(Tok.ver v::b).map (DS n):=b1
 have huv:u≠v:=by rintro rfl;exact hd u hu iu.2.2.2 hv
 have ho:okT n (.arc u v):=⟨iu,iv,huv⟩
 have pA:=(CT hu).perm
 have pB:=(CT hv).perm
 have ht:A5 A u=u::(A5 A u).tail:=by rw[a1'];rfl
 have hall:A8 n A B u v=(Tok.ver u :: .arc u v::(.ver v::b ++ .arc v u::a)).map (DS n):=by
  rw[A8,a1',b1',E8 ho,E8 (Er ho)]
  simp[DS]
 refine⟨⟨_,hall,fun t ht => ?_,T.join a2 b2 fun x hx hx2 => ?_⟩,ht,fun t ht2 => ?_,huv,ho⟩
 ·rcases Afr.1 ht with rfl|ht
  ·exact iu
  ·rcases Afr.1 ht with rfl|ht
   ·exact ho
   ·rcases Afo.1 ht with ht|ht
    ·exact b3 t ht
    ·rcases Afr.1 ht with rfl|ht
     ·exact Er ho
     ·exact a3 t (AgA _ ht)
 ·have ix:=a3 _ hx
  have x1:x∈A:=pA.mem_iff.2 (by rw[a1'];exact Af7.2 ⟨_,hx,rfl⟩)
  have x2:x∈B:=pB.mem_iff.2 (by rw[b1'];exact Af7.2 ⟨_,hx2,rfl⟩)
  exact hd x x1 ix.2.2.2 x2
 ·have g1:=AJC ho
  have g2:=AJC (Er ho)
  have e1:t∈A↔t=u∨t∈(A5 A u).tail:=by rw[pA.mem_iff,ht,Afr,Ahl]
  rw[A8,Afr,Afr,Afo,Afr,e1,← pB.mem_iff]
  constructor
  ·rintro (h|h|h|h|h)
   ·exact .inl (.inl h)
   ·omega
   ·exact .inr h
   ·omega
   ·exact .inl (.inr h)
  ·rintro ((h|h)|h)
   ·exact .inl h
   ·exact .inr (.inr (.inr (.inr h)))
   ·exact .inr (.inr (.inl h))
theorem Je{n:Int}{a b:List (List Int)}(h:a.Perm b)(ha:a.Pairwise (Dis n)):b.Pairwise (Dis n):=(h.pairwise_iff fun {_ _} hh=>hh.symm).1 ha
theorem AUe{n:Int}{rings rest zs:List (List Int)}{A B p:List Int}(h:FR n rings)(hp:rings.Perm (A::B::rest))(hg:RG n p)(hm:∀ t,t<n→(t∈p↔t∈A∨t∈B))(hz:zs.Perm (p::rest))(hu:zs.Pairwise (fun a b=>hd a<hd b)):FR n zs:=by
 have hd0:=Je hp h.dis
 rw[AgZ,AgZ]at hd0
 obtain⟨h1,h2,h3⟩:=hd0
 refine⟨h.sz,fun l hl => ?_,hu,Je hz.symm ?_,fun v hv => ?_⟩
 ·rcases Afr.1 (hz.mem_iff.1 hl)with rfl|hl
  ·exact hg
  ·exact h.rg l (hp.mem_iff.2 (by simp[hl]))
 ·rw[AgZ]
  refine⟨fun r hr t ht htn => ?_,h3⟩
  rcases(hm t htn).1 ht with g|g
  ·exact h1 r (by simp[hr]) t g htn
  ·exact h2 r hr t g htn
 ·obtain⟨l,hl,hvl⟩:=h.cov v hv
  have:=hp.mem_iff.1 hl
  simp only[Afr]at this
  rcases this with rfl|rfl|g
  ·exact⟨p,hz.mem_iff.2 (by simp),(hm v hv.2.2.2).2 (.inl hvl)⟩
  ·exact⟨p,hz.mem_iff.2 (by simp),(hm v hv.2.2.2).2 (.inr hvl)⟩
  ·exact⟨l,hz.mem_iff.2 (by simp[g]),hvl⟩
theorem HN(n:Int)(rings:List (List Int))(u v:Int)(hD:Dom rings):asked ((n,(rings,())),u,v,())=some (if RF n rings then if In n u∧In n v then 0 else 10 else 1,()):=by
 rw[AOH,XM]
 simp only[N8 n rings hD.1 hD.2,Wq]
 by_cases h:RF n rings
 ·by_cases h1:In n u
  ·by_cases h2:In n v<;>simp[h,h1,h2]
  ·simp[h,h1]
 ·simp[h]
theorem Aa7(a b:Nat):imax (a:Int) (b:Int)=((max a b:Nat):Int):=by rw[imax];split<;>omega
theorem Aa6(a b:Nat):Bt (a:Int) (b:Int)=((min a b:Nat):Int):=by rw[Bt];split<;>omega
theorem AdI{n:Int}{rings:List (List Int)}{u v:Int}{i j:Nat}{A B:List Int}(h:FR n rings)(iu:In n u)(iv:In n v)(hi:rings[i]? = some A)(hj:rings[j]? = some B)(hu:u∈A)(hv:v∈B)(hij:i≠j):
  ∃ zs rest,LN ((n,(rings,())),u,v,())=some (n,zs,0,())∧FR n zs∧rings.Perm (A::B::rest)∧zs.Perm (plain (A8 n A B u v)::rest)∧Dis n A B:=by
 have hD:=h.dom
 have hRF:=Kf.2 h
 have rA:=h.rg A (Af3 hi)
 have rB:=h.rg B (Af3 hj)
 have hil:=(AgN.1 hi).1
 have hjl:=(AgN.1 hj).1
 have pu:plc rings u=(i:Int):=h.Yl hi iu.2.2.2 hu
 have pv:plc rings v=(j:Int):=h.Yl hj iv.2.2.2 hv
 have hperm:rings.Perm (A::B::(rings.eraseIdx (max i j)).eraseIdx (min i j)):=by
  rcases AiV hij with g|g
  ·rw[Ah1 (by omega),Agm (by omega)]
   exact Iq g hi hj
  ·rw[Ah8 (by omega),AiL (by omega)]
   exact(Iq g hj hi).trans (List.Perm.swap _ _ _)
 have hdis:Dis n A B:=by
  have:=Je hperm h.dis
  rw[AgZ]at this
  exact this.1 B (by simp)
 obtain⟨l1,l2,l3,huv,ho⟩:=ND rA.2.2.2 rB.2.2.2 hu hv iu iv hdis
 obtain⟨hRG,hrot⟩:=ABj l1
 have hall:A8 n A B u v=u::Dt n u v::(A5 B v++Dt n v u::(A5 A u).tail):=rfl
 have lA:(A5 A u).length≤1000:=by rw[← (CT hu).perm.length_eq];exact rA.1.1
 have lB:(A5 B v).length≤1000:=by rw[← (CT hv).perm.length_eq];exact rB.1.1
 have hsub:((rings.eraseIdx (max i j)).eraseIdx (min i j)).Sublist rings:=(AiH _ _).trans (AiH _ _)
 have hdrop:Cd (fun k=>decide ((k:Int)∈[(i:Int),(j:Int)])) 0 rings=(rings.eraseIdx (max i j)).eraseIdx (min i j):=by
  rcases AiV hij with g|g
  ·rw[Ah1 (by omega),Agm (by omega)]
   exact KW _ i j g rings 0 (by omega) fun k _=>AhM.2 (by simp only[Afr,Ahi,AiK];omega)
  ·rw[Ah8 (by omega),AiL (by omega)]
   exact KW _ j i g rings 0 (by omega) fun k _=>AhM.2 (by simp only[Afr,Ahi,AiK];omega)
 have hrl:((rings.eraseIdx (max i j)).eraseIdx (min i j)).length≤rings.length:=hsub.length_le
 generalize (rings.eraseIdx (max i j)).eraseIdx (min i j)=rest at *
 have hupr:rest.Pairwise (fun a b=>hd a<hd b):=h.up.sublist hsub
 have hner:∀ l∈rest,l≠[]:=fun l hl=>(h.rg l (hsub.subset hl)).2.1
 have hdd:=Je hperm h.dis
 rw[AgZ,AgZ]at hdd
 have hheads:∀ x∈rest,hd x≠hd (plain (A8 n A B u v)):=by
  intro x hx e
  have g1:=NW hRG
  have g2:=(l3 _ g1.2.2.2).1 (hrot.perm.mem_iff.2 (S2 hRG.2.1))
  have g3:hd (plain (A8 n A B u v))∈x:=e▸S2 (hner x hx)
  rcases g2 with g|g
  ·exact hdd.1 x (by simp[hx]) _ g g1.2.2.2 g3
  ·exact hdd.2.1 x hx _ g g1.2.2.2 g3
 have hup:=ATa hupr hheads
 have hpz:=AD0 rest (plain (A8 n A B u v))
 refine⟨Yc rest (plain (A8 n A B u v)),rest,?_,AUe h hperm hRG (fun t ht=>by rw[← hrot.perm.mem_iff];exact l3 t ht) hpz hup,hperm,hpz,hdis⟩
 ·obtain⟨ys,y1,y2,y3⟩:=ADO n rings [(i:Int),(j:Int)] [A8 n A B u v] hD.1 (by simp) (by simp) (fun l hl=>(h.rg l hl).2.1) (by simp;exact hRG.2.1)
  have hys:ys=Yc rest (plain (A8 n A B u v)):=by
   refine T3 hup (y2.trans ?_) y3
   rw[hdrop]
   exact(AhW (l₁:=rest) (l₂:=[plain (A8 n A B u v)])).trans hpz.symm
  rw[hys]at y1
  rw[HZ,Gx]
  have s1:Bz (A5 A u) (0:Int) (1:Int)=some [u]:=by
   have:=Rj (xs:=A5 A u) (l:=0) (h:=1) (by omega) (by rw[l2];simp)
   rw[l2]at this ⊢
   exact this
  have s2:Bz (A5 A u) (1:Int) (AO (A5 A u))=some (A5 A u).tail:=by
   have:=Du (xs:=A5 A u) (l:=1) (by rw[l2];simp)
   rw[Ahf]at this
   exact this
  have d1:DT 0 (AE (AO [u])) (A5 A u)=[u]:=by rw[l2];rfl
  have d2:DT 1 (AE (AO (A5 A u).tail)) (A5 A u)=(A5 A u).tail:=by
   rw[DT,AN,H9,Ahf,Ags]
  have hcat:Is ([[u],[Dt n u v],A5 B v,[Dt n v u],(A5 A u).tail],())=some (A8 n A B u v,()):=by
   rw[MM _ (by simp) (by simp;omega)]
   simp[A8]
  have ne:((i:Int))≠(j:Int):=by omega
  simp only[HN n rings u v hD,hRF,iu,iv,AiT,AgC,Ao,HV n rings _ hD.1 (fun l hl=>(hD.2 l hl).1),pu,pv,ne,Afx,Af2,Aft,Ag hi,Ag hj,ADv,Im,rA.1,rB.1,hu,hv,s1,s2,AKA,d1,d2,hcat,y1]
theorem ARM{n:Int}{rings:List (List Int)}{u v:Int}(h:FR n rings)(iu:In n u)(iv:In n v)(hp:plc rings u=plc rings v):
  LN ((n,(rings,())),u,v,())=some (n,rings,5,()):=by
 have hD:=h.dom
 have hRF:=Kf.2 h
 rw[HZ,Gx]
 simp only[HN n rings u v hD,hRF,iu,iv,AiT,AgC,Ao,HV n rings _ hD.1 (fun l hl=>(hD.2 l hl).1),hp,Afx,Aft]
end Go.Pev.Pl
end
section
namespace Go.Pev.Pl
open Tok
def O5(rings:List (List Int))(a b:Int):Prop:=∃ A∈rings,a∈A∧b∈A
structure FC(n:Int)(rings:List (List Int))(l:List Edge):Prop where
 fr:FR n rings
 sam:∀ a b,In n a→In n b→(O5 rings a b↔Con l a b)
 arcs:∀ A∈rings,∀ u v,okT n (.arc u v)→Dt n u v∈A→∃ e∈l,(e.1=u∧e.2.1=v)∨(e.1=v∧e.2.1=u)
theorem FR.AY6{n:Int}{rings:List (List Int)}(h:FR n rings){a b:Int}(ia:In n a)(ib:In n b):plc rings a=plc rings b↔O5 rings a b:=by
 obtain⟨i,A,pa,hi,ha,_⟩:=LX (h.cov a ia)
 obtain⟨j,B,pb,hj,hb,_⟩:=LX (h.cov b ib)
 rw[pa,pb]
 constructor
 ·intro e
  have:i=j:=by omega
  subst this
  rw[hi]at hj
  cases hj
  exact⟨A,Af3 hi,ha,hb⟩
 ·rintro⟨K,hK,h1,h2⟩
  obtain⟨k,hk⟩:∃ k:Nat,rings[k]? = some K:=by
   obtain⟨k,hk,rfl⟩:=Agp hK
   exact⟨k,Afp hk⟩
  rw[h.uniq hi hk ia.2.2.2 ha h1,h.uniq hj hk ib.2.2.2 hb h2]
theorem FR.one{n:Int}{rings:List (List Int)}(h:FR n rings){A B:List Int}(hA:A∈rings)(hB:B∈rings){v:Int}(iv:v<n)(h1:v∈A)(h2:v∈B):A=B:=by
 obtain⟨i,hi,rfl⟩:=Agp hA
 obtain⟨j,hj,rfl⟩:=Agp hB
 have:=h.uniq (Afp hi) (Afp hj) iv h1 h2
 subst this
 rfl
theorem O5.perm{a b:List (List Int)}(h:a.Perm b)(x y:Int):O5 a x y↔O5 b x y:=by
 constructor
 ·rintro⟨A,hA,h1⟩;exact⟨A,h.mem_iff.1 hA,h1⟩
 ·rintro⟨A,hA,h1⟩;exact⟨A,h.mem_iff.2 hA,h1⟩
theorem AWf{n u v x y:Int}{A B:List Int}(hA:TI n A)(hB:TI n B)(hu:u∈A)(hv:v∈B)(iu:In n u)(iv:In n v)(hd:Dis n A B)(ho:okT n (.arc x y))(h:Dt n x y∈A8 n A B u v):Dt n x y∈A∨Dt n x y∈B∨(x=u∧y=v)∨(x=v∧y=u):=by
 obtain⟨_,l2,_,huv,ho2⟩:=ND hA hB hu hv iu iv hd
 have pA:=(CT hu).perm
 have pB:=(CT hv).perm
 have g:=AJC ho
 rw[A8,Afr,Afr,Afo,Afr]at h
 rcases h with h|h|h|h|h
 ·have:=iu.2.2.2;omega
 ·rw[E8 ho,E8 ho2]at h
  have:=GF ho ho2 h
  cases this
  exact .inr (.inr (.inl ⟨rfl,rfl⟩))
 ·exact .inr (.inl (pB.mem_iff.2 h))
 ·rw[E8 ho,E8 (Er ho2)]at h
  have:=GF ho (Er ho2) h
  cases this
  exact .inr (.inr (.inr ⟨rfl,rfl⟩))
 ·refine .inl (pA.mem_iff.2 ?_)
  rw[l2]
  exact AgA _ h
theorem AUf{n:Int}{rings:List (List Int)}{l:List Edge}{e:Edge}(h:FC n rings l)(iu:In n e.1)(iv:In n e.2.1):
  ∃ zs q,LN ((n,(rings,())),e.1,e.2.1,())=some (n,zs,q,())∧FC n zs (l++[e])∧(q=0∧zs.length+1=rings.length∨q=5∧zs=rings):=by
 have hF:=h.fr
 obtain⟨i,A,pu,hi,hu,_⟩:=LX (hF.cov _ iu)
 obtain⟨j,B,pv,hj,hv,_⟩:=LX (hF.cov _ iv)
 have mA:=Af3 hi
 have mB:=Af3 hj
 by_cases hij:i=j
 ·have hpe:plc rings e.1=plc rings e.2.1:=by rw[pu,pv,hij]
  refine⟨rings,5,ARM hF iu iv hpe,⟨hF,fun a b ia ib => ?_,fun A hA u v ho hm => ?_⟩,.inr ⟨rfl,rfl⟩⟩
  ·rw[h.sam a b ia ib,Con.snoc]
   have hc:Con l e.1 e.2.1:=(h.sam _ _ iu iv).1 ((hF.AY6 iu iv).1 hpe)
   constructor
   ·exact .inl
   ·rintro (g|⟨g1,g2⟩|⟨g1,g2⟩)
    ·exact g
    ·exact g1.trans (hc.trans g2)
    ·exact g1.trans (hc.symm.trans g2)
  ·obtain⟨e',h1,h2⟩:=h.arcs A hA u v ho hm
   exact⟨e',by simp[h1],h2⟩
 ·obtain⟨zs,rest,q1,q3,q4,q5,q6⟩:=AdI hF iu iv hi hj hu hv hij
  have gA:=hF.rg A mA
  have gB:=hF.rg B mB
  obtain⟨l1,l2,l3,huv,ho⟩:=ND gA.2.2.2 gB.2.2.2 hu hv iu iv q6
  obtain⟨hRG,hrot⟩:=ABj l1
  have len1:=q4.length_eq
  have len2:=q5.length_eq
  simp only[Afu]at len1 len2
  refine⟨zs,0,q1,⟨q3,fun a b ia ib => ?_,fun K hK x y hxy hm => ?_⟩,.inl ⟨rfl,by omega⟩⟩
  ·rw[O5.perm q5,Con.snoc,← h.sam a b ia ib,← h.sam a _ ia iu,← h.sam _ b iv ib,← h.sam a _ ia iv,← h.sam _ b iu ib]
   have pmem:∀ x,In n x→(x∈plain (A8 n A B e.1 e.2.1)↔x∈A∨x∈B):=fun x ix=>by rw[← hrot.perm.mem_iff];exact l3 x ix.2.2.2
   have sA:∀ x,In n x→(O5 rings x e.1↔x∈A):=fun x ix=>by
    constructor
    ·rintro⟨K,hK,h1,h2⟩
     rw[hF.one mA hK iu.2.2.2 hu h2];exact h1
    ·intro hx;exact⟨A,mA,hx,hu⟩
   have sB:∀ x,In n x→(O5 rings x e.2.1↔x∈B):=fun x ix=>by
    constructor
    ·rintro⟨K,hK,h1,h2⟩
     rw[hF.one mB hK iv.2.2.2 hv h2];exact h1
    ·intro hx;exact⟨B,mB,hx,hv⟩
   have sy:∀ x y,O5 rings x y↔O5 rings y x:=fun x y=>⟨fun ⟨K,a,b,c⟩=>⟨K,a,c,b⟩,fun ⟨K,a,b,c⟩=>⟨K,a,c,b⟩⟩
   rw[sA a ia,sB a ia,sy e.2.1 b,sB b ib,sy e.1 b,sA b ib]
   have hs:O5 rings a b↔(a∈A∧b∈A)∨(a∈B∧b∈B)∨∃ K∈rest,a∈K∧b∈K:=by
    rw[O5.perm q4]
    simp only[O5,Afr,exists_eq_or_imp]
   have hz:O5 (plain (A8 n A B e.1 e.2.1)::rest) a b↔((a∈A∨a∈B)∧(b∈A∨b∈B))∨∃ K∈rest,a∈K∧b∈K:=by
    simp only[O5,Afr,exists_eq_or_imp,pmem a ia,pmem b ib]
   rw[hs,hz]
   constructor
   ·rintro (⟨h1|h1,h2|h2⟩|h)
    ·exact .inl (.inl ⟨h1,h2⟩)
    ·exact .inr (.inl ⟨h1,h2⟩)
    ·exact .inr (.inr ⟨h1,h2⟩)
    ·exact .inl (.inr (.inl ⟨h1,h2⟩))
    ·exact .inl (.inr (.inr h))
   ·rintro ((⟨h1,h2⟩|⟨h1,h2⟩|h)|⟨h1,h2⟩|⟨h1,h2⟩)
    ·exact .inl ⟨.inl h1,.inl h2⟩
    ·exact .inl ⟨.inr h1,.inr h2⟩
    ·exact .inr h
    ·exact .inl ⟨.inl h1,.inr h2⟩
    ·exact .inl ⟨.inr h1,.inl h2⟩
  ·have old:∀ K∈rings,Dt n x y∈K→∃ e'∈l++[e],(e'.1=x∧e'.2.1=y)∨(e'.1=y∧e'.2.1=x):=fun K hK hm=>by
    obtain⟨e',h1,h2⟩:=h.arcs K hK x y hxy hm
    exact⟨e',by simp[h1],h2⟩
   rcases Afr.1 (q5.mem_iff.1 hK)with rfl|hK
   ·rcases AWf gA.2.2.2 gB.2.2.2 hu hv iu iv q6 hxy (hrot.perm.mem_iff.2 hm)with g|g|⟨g1,g2⟩|⟨g1,g2⟩
    ·exact old A mA g
    ·exact old B mB g
    ·exact⟨e,by simp,.inl ⟨g1.symm,g2.symm⟩⟩
    ·exact⟨e,by simp,.inr ⟨g2.symm,g1.symm⟩⟩
   ·exact old K (q4.mem_iff.2 (by simp[hK])) hm
theorem ABk{N:Nat}(h1:1≤N)(h2:N≤64):FC (N:Int) (BJ N) []:=by
 have hS:∀ A∈BJ N,∃ k:Nat,k<N∧A=[(k:Int)]:=fun A hA=>by
  simp only[BJ,Af7,Agt]at hA
  obtain⟨k,hk,rfl⟩:=hA
  exact⟨k,hk,rfl⟩
 have key:∀ k,k<N→In (N:Int) (k:Int):=fun k hk=>⟨by omega,by omega,by omega,by omega⟩
 refine⟨⟨⟨by omega,by omega⟩,fun l hl => ?_,?_,?_,fun v hv => ?_⟩,fun a b ia ib => ?_,fun A hA u v ho hm => ?_⟩
 ·obtain⟨k,hk,rfl⟩:=hS l hl
  refine⟨⟨by simp,fun x hx => ?_,by simp⟩,by simp,rfl,(AcC (N:Int) k).2 (key k hk)⟩
  simp only[AgF]at hx
  omega
 ·rw[BJ,AhF]
  exact List.pairwise_lt_range.imp fun h=>by simp only[hd,AiR];omega
 ·rw[BJ,AhF]
  exact List.pairwise_lt_range.imp fun {a b} h t ht _ ht2=>by
   simp only[AgF]at ht ht2
   omega
 ·obtain⟨k,rfl⟩:=Afy hv.2.2.1
  have:=hv.2.2.2
  exact⟨[(k:Int)],by simp only[BJ,Af7,Agt];exact⟨k,by omega,rfl⟩,by simp⟩
 ·constructor
  ·rintro⟨A,hA,h1,h2⟩
   obtain⟨k,_,rfl⟩:=hS A hA
   simp only[AgF]at h1 h2
   rw[h1,h2]
   exact .refl _
  ·intro hc
   have:=hc.nil
   subst this
   obtain⟨k,rfl⟩:=Afy ia.2.2.1
   have:=ia.2.2.2
   exact⟨[(k:Int)],by simp only[BJ,Af7,Agt];exact⟨k,by omega,rfl⟩,by simp,by simp⟩
 ·obtain⟨k,hk,rfl⟩:=hS A hA
  simp only[AgF]at hm
  have:=AJC ho
  omega
theorem AAu(l:List Edge)(hs:l.length<1073741824):ends (l,())=some (l.flatMap fun e=>[e.1,e.2.1],()):=by
 rw[AUQ,AIZ]
 have e:=Ch (step:=KU) (fun i (a:List Int)=>(a,l,AO l,(i:Int),())) l (fun x a=>.inl (a++[x.1,x.2.1])) (fun a=>.inl (a,())) (fun i a=>a.length=2*i) (by omega)
  (fun i x a hi hx h1=>by
   refine⟨fun m' h' => ?_,fun r h'=>by cases h'⟩
   cases h'
   rw[KU,AN,AI,Afk hi]
   simp only[Ag hx]
   rw[AH (by omega),BI (by simp only[AN,Afu,Af6];omega)]
   exact⟨rfl,by simp;omega⟩)
  (fun a _=>by rw[KU,AN,AI,Afj (by omega)]) [] rfl
 have e':AR KU many ([],l,AO l,(0:Int),())=_:=e
 rw[e',BL]
 have hf:∀ (xs:List Edge) (acc:List Int),xs.foldl (fun a x=>a++[x.1,x.2.1]) acc=acc++xs.flatMap fun e=>[e.1,e.2.1]:=by
  intro xs
  induction xs with
  |nil=>intro acc;simp
  |cons x xs ih=>intro acc;rw[Agg,ih,Ag5];simp
 rw[hf]
 rfl
theorem ANi(n:Int)(l:List Edge):((l.flatMap fun e=>[e.1,e.2.1]).all fun v=>decide (In n v))=l.all fun e=>decide (In n e.1∧In n e.2.1):=by
 induction l with
 |nil=>rfl
 |cons e l ih=>
  rw[Ag5,List.all_append,List.all_cons,ih]
  simp
theorem ANh(l:List Edge):(l.flatMap fun e=>[e.1,e.2.1]).length=2*l.length:=by
 induction l with
 |nil=>rfl
 |cons e l ih=>rw[Ag5,Afs,ih];simp;omega
theorem ARK{n:Int}(l:List Edge)(hs:l.length<1073741824)(ha:∀ e∈l,In n e.1∧In n e.2.1):
  ∀ (m i cnt:Nat) (rings:List (List Int)) (taken:List Bool),i+m=l.length→taken.length=i→FC n rings (l.take i)→m<cnt →
  ∃ zs taken',AQ Bv cnt (n,rings,(0:Int),taken,l,(l.length:Int),(i:Int),())=some (.inl (n,zs,(0:Int),taken',()))∧FC n zs l∧taken'.length=l.length:=by
 intro m
 induction m with
 |zero=>
  intro i cnt rings taken hi ht h hc
  obtain⟨cnt,rfl⟩:∃ c,cnt=c+1:=⟨cnt-1,by omega⟩
  rw[Agl (by omega)]at h
  refine⟨rings,taken,?_,h,by omega⟩
  rw[AQ,Bv,AI,Afj (by omega)]
 |succ m ih=>
  intro i cnt rings taken hi ht h hc
  obtain⟨cnt,rfl⟩:∃ c,cnt=c+1:=⟨cnt-1,by omega⟩
  have hi':i<l.length:=by omega
  have hx:l[i]? = some l[i]:=Afp hi'
  obtain⟨iu,iv⟩:=ha _ (Ag0 hi')
  obtain⟨zs,q,e1,e2,_⟩:=AUf h iu iv
  rw[AQ,Bv,AI,Afk hi']
  simp only[Ag hx,e1]
  rw[AH (by omega),BI (by simp only[AN,Afu,Af6];omega)]
  rw[← Agf hi']at e2
  exact ih (i+1) cnt zs _ (by omega) (by simp[Cf,ht]) e2 (by omega)
theorem AUN(k:Int)(l:List Edge)(hk:Sz k)(hs:l.length<1073741824):
  ((∀ e∈l,In k e.1∧In k e.2.1)∧∃ rings,fof (k,l,())=some ((k,(rings,())),0,())∧FC k rings l) ∨
  (¬ (∀ e∈l,In k e.1∧In k e.2.1)∧fof (k,l,())=some ((0,([],())),10,())):=by
 have hmany:9223372036854775808<many:=by simp only[many];omega
 rw[AR7,ANX]
 have hm:Gz k=(k,BJ k.toNat,0,()):=by rw[Gz,Af0 hk]
 obtain⟨s1,s2⟩:=hk
 obtain⟨N,rfl⟩:=Afy (show 0≤k by omega)
 have h0:=ABk (N:=N) (by omega) (by omega)
 have hD:=h0.fr.dom
 have hRF:=Kf.2 h0.fr
 have hfl:=ANh l
 have hth:KQ (((N:Int),(BJ N,())),l.flatMap fun e=>[e.1,e.2.1],())=some (if ∀ e∈l,In (N:Int) e.1∧In (N:Int) e.2.1 then 0 else 10,()):=by
  rw[Oj _ _ _ hD (by omega),ANi,AJB,Af0 hRF]
  by_cases ha:∀ e∈l,In (N:Int) e.1∧In (N:Int) e.2.1
  ·rw[Af0 ha,Af0 (Af9.2 fun e he=>Afk (ha e he))]
  ·rw[Afv ha,Afv]
   intro hc
   exact ha fun e he=>Ahd (Af9.1 hc e he)
 simp only[ADc,hm,Agd,L3,Aft]
 rw[S8,MA,MG,H8]
 by_cases ha:∀ e∈l,In (N:Int) e.1∧In (N:Int) e.2.1
 ·refine .inl ⟨ha,?_⟩
  rw[Af0 ha]at hth
  obtain⟨zs,taken,e1,e2,_⟩:=ARK l hs ha l.length 0 many (BJ N) [] (by omega) rfl (by rw[List.take_zero];exact h0) (by omega)
  have e1':AQ Bv many ((N:Int),BJ N,(0:Int),[],l,(l.length:Int),(0:Int),())=_:=e1
  simp only[AAu l hs,hth,L3,Aft,Ae,AN,e1']
  exact⟨zs,rfl,e2⟩
 ·refine .inr ⟨ha,?_⟩
  rw[Afv ha]at hth
  simp only[AAu l hs,hth,Ao]
  rfl
end Go.Pev.Pl
end
section
namespace Go.Pev.Pl
open Tok
def cl(out:List Int)(v:Int):Int:=out.getD v.toNat 0
def CI(N:Nat)(l:List Edge)(out:List Int):Prop:=out.length=N∧∀ k,k<N→0≤out.getD k 0∧out.getD k 0≤(k:Int)∧Con l (k:Int) (out.getD k 0)
theorem ATP:∀ (l:List Int) (k:Nat) (x:Int),k<l.length→(l.set k x).sum=l.sum-l.getD k 0+x:=by
 intro l
 induction l with
 |nil=>intro k x h;simp at h
 |cons y l ih=>
  intro k x h
  cases k with
  |zero=>simp;omega
  |succ k=>
   have:=ih k x (by simpa using h)
   simp only[List.set_cons_succ,List.sum_cons,List.getD_cons_succ,this]
   omega
theorem OB{N:Nat}{l:List Edge}{out:List Int}(h:CI N l out)(hN:N≤64):0≤out.sum∧out.sum≤4096:=by
 obtain⟨h1,h2⟩:=h
 have key:∀ (xs:List Int),(∀ x∈xs,0≤x∧x≤64)→0≤xs.sum∧xs.sum≤64*(xs.length:Int):=by
  intro xs
  induction xs with
  |nil=>intro _;simp
  |cons x xs ih=>
   intro h
   have h3:=ih fun y hy=>h y (AgA _ hy)
   have h4:=h x (by simp)
   simp only[List.sum_cons,Afu]
   omega
 have:=key out fun x hx=>by
  obtain⟨k,hk,rfl⟩:=Agp hx
  have h5:=h2 k (by omega)
  rw[Afm,Afp hk,AgH]at h5
  omega
 omega
theorem AfO(N:Nat)(l:List Edge)(hs:l.length<1073741824)(ha:∀ e∈l,In (N:Int) e.1∧In (N:Int) e.2.1):
  ∀ (m i cnt:Nat) (out:List Int) (more:Bool),i+m=l.length→CI N l out→m<cnt →
  ∃ out' more',AQ Cv cnt ((N:Int),l,out,more,(i:Int),())=some (.inl ((N:Int),l,out',more',()))∧CI N l out' ∧
   ((more'=more∧out'=out∧∀ e∈l.drop i,cl out e.1=cl out e.2.1)∨(more'=true∧out'.sum<out.sum)):=by
 intro m
 induction m with
 |zero=>
  intro i cnt out more hi h hc
  obtain⟨cnt,rfl⟩:∃ c,cnt=c+1:=⟨cnt-1,by omega⟩
  refine⟨out,more,?_,h,.inl ⟨rfl,rfl,?_⟩⟩
  ·rw[AQ,Cv,AN,AI,Afj (by omega)]
  ·rw[Agv (by omega)]
   intro e he;cases he
 |succ m ih=>
  intro i cnt out more hi h hc
  obtain⟨cnt,rfl⟩:∃ c,cnt=c+1:=⟨cnt-1,by omega⟩
  have hi':i<l.length:=by omega
  have hx:l[i]? = some l[i]:=Afp hi'
  have hm:=Ag0 hi'
  have hdr:l.drop i=l[i]::l.drop (i+1):=AgX hi'
  rw[AQ,Cv,AN,AI,Afk hi']
  simp only[Ag hx]
  rw[hdr,AH (by omega)]
  generalize l[i]=e at *
  obtain⟨iu,iv⟩:=ha e hm
  have hcon:=Con.edge e hm
  obtain⟨eu,ev,eu'⟩:=e
  simp only at iu iv hcon ⊢
  obtain⟨u,rfl⟩:=Afy iu.2.2.1
  obtain⟨v,rfl⟩:=Afy iv.2.2.1
  have hu:u<N:=by have:=iu.2.2.2;omega
  have hv:v<N:=by have:=iv.2.2.2;omega
  have hul:u<out.length:=by rw[h.1];exact hu
  have hvl:v<out.length:=by rw[h.1];exact hv
  rw[Al,Afj (by omega)]
  simp only[]
  rw[Al,Afj (by omega)]
  simp only[]
  rw[Ap,Afj (by omega)]
  simp only[]
  rw[Ap,Afj (by omega)]
  simp only[Ck (0:Int) hul,Ck (0:Int) hvl,E1,AA0,Ao]
  by_cases hq:out.getD u 0=out.getD v 0
  ·rw[Afk hq]
   obtain⟨out',more',e1,e2,e3⟩:=ih (i+1) cnt out more (by omega) h (by omega)
   refine⟨out',more',e1,e2,?_⟩
   rcases e3 with⟨g1,g2,g3⟩|g
   ·refine .inl ⟨g1,g2,fun e' he' => ?_⟩
    rcases Afr.1 he' with rfl|he'
    ·simpa [cl]using hq
    ·exact g3 e' he'
   ·exact .inr g
  ·rw[Afj hq]
   have hne:u≠v:=by rintro rfl;exact hq rfl
   have hlow:Bt (out.getD u 0) (out.getD v 0)=if out.getD v 0<out.getD u 0 then out.getD v 0 else out.getD u 0:=rfl
   generalize hlw:Bt (out.getD u 0) (out.getD v 0)=low at *
   have hvl2:v<(out.set u low).length:=by simp;exact hvl
   simp only[Ck (0:Int) hvl2]
   have cu:=h.2 u hu
   have cv:=h.2 v hv
   have hset:∀ k,k<N→((out.set u low).set v low).getD k 0=if k=u∨k=v then low else out.getD k 0:=by
    intro k hk
    have hkl:k<out.length:=by rw[h.1];exact hk
    by_cases k2:k=v
    ·subst k2
     simp[Afm,hkl]
    ·by_cases k1:k=u
     ·subst k1
      rw[Af0 (.inl rfl),Afm,Agh (Agb k2)]
      simp[hkl]
     ·rw[Afv (by omega),Afm,Agh (Agb k2),Agh (Agb k1),Afm]
   have hlc:0≤low∧low≤(u:Int)∧low≤(v:Int)∧Con l (u:Int) low:=by
    rw[hlow]
    split
    ·exact⟨cv.1,by omega,cv.2.1,hcon.trans cv.2.2⟩
    ·exact⟨cu.1,cu.2.1,by omega,cu.2.2⟩
   have hI:CI N l ((out.set u low).set v low):=by
    refine⟨by simp[h.1],fun k hk => ?_⟩
    rw[hset k hk]
    split
    ·rename_i hkk
     rcases hkk with rfl|rfl
     ·exact⟨hlc.1,hlc.2.1,hlc.2.2.2⟩
     ·exact⟨hlc.1,hlc.2.2.1,hcon.symm.trans hlc.2.2.2⟩
    ·exact h.2 k hk
   have hsum:((out.set u low).set v low).sum<out.sum:=by
    rw[ATP _ _ _ hvl2,ATP _ _ _ hul]
    have:(out.set u low).getD v 0=out.getD v 0:=by
     rw[Afm,Agh hne,← Afm]
    rw[this,hlow]
    split<;>omega
   obtain⟨out',more',e1,e2,e3⟩:=ih (i+1) cnt _ true (by omega) hI (by omega)
   refine⟨out',more',e1,e2,.inr ?_⟩
   rcases e3 with⟨g1,g2,_⟩|⟨g1,g2⟩
   ·exact⟨g1,by rw[g2];exact hsum⟩
   ·exact⟨g1,by omega⟩
theorem AeW(N:Nat)(hN:N≤64)(l:List Edge)(hs:l.length<1073741824)(ha:∀ e∈l,In (N:Int) e.1∧In (N:Int) e.2.1):
  ∀ (m cnt:Nat) (out:List Int),out.sum.toNat=m→CI N l out→m+1<cnt →
  ∃ out',AQ Di cnt ((N:Int),l,out,true,())=some (.inl (out',()))∧CI N l out'∧∀ e∈l,cl out' e.1=cl out' e.2.1:=by
 have hmany:9223372036854775808<many:=by simp only[many];omega
 intro m
 induction m using Nat.strongRecOn with
 |_ m ih=>
 intro cnt out hm h hc
 obtain⟨cnt,rfl⟩:∃ c,cnt=c+1:=⟨cnt-1,by omega⟩
 rw[AQ,Di]
 obtain⟨out',more',e1,e2,e3⟩:=AfO N l hs ha l.length 0 many out false (by omega) h (by omega)
 have e1':AQ Cv many ((N:Int),l,out,false,(0:Int),())=_:=e1
 simp only[Ae,e1']
 rcases e3 with⟨g1,g2,g3⟩|⟨g1,g2⟩
 ·subst g1 g2
  obtain⟨cnt,rfl⟩:∃ c,cnt=c+1:=⟨cnt-1,by omega⟩
  rw[AQ,Di]
  exact⟨_,rfl,e2,by simpa using g3⟩
 ·subst g1
  have b1:=OB h hN
  have b2:=OB e2 hN
  exact ih out'.sum.toNat (by omega) cnt out' rfl e2 (by omega)
structure Tv(n:Int)(l:List Edge)(out:List Int):Prop where
 len:(out.length:Int)=n
 same:∀ a b,In n a→In n b→(cl out a=cl out b↔Con l a b)
 isin:∀ a,In n a→In n (cl out a)
 con:∀ a,In n a→Con l a (cl out a)
 least:∀ a b,In n a→In n b→Con l a b→cl out a≤b
theorem Dz(n:Int)(l:List Edge)(hn:Sz n)(hs:l.length<1073741824)(ha:∀ e∈l,In n e.1∧In n e.2.1):∃ out,Fs (n,l,())=some (out,())∧Tv n l out:=by
 have hmany:9223372036854775808<many:=by simp only[many];omega
 obtain⟨s1,s2⟩:=hn
 obtain⟨N,rfl⟩:=Afy (show 0≤n by omega)
 rw[Qr,It]
 have key:∀ (m k cnt:Nat),k+m=N→m<cnt→AQ Cw cnt ((N:Int),l,(List.range k).map (fun(k:Nat)=>(k:Int)),(k:Int),())=some (.inl ((N:Int),l,(List.range N).map (fun(k:Nat)=>(k:Int)),())):=by
  intro m
  induction m with
  |zero=>
   intro k cnt hk hc
   obtain⟨cnt,rfl⟩:∃ c,cnt=c+1:=⟨cnt-1,by omega⟩
   have:k=N:=by omega
   subst this
   rw[AQ,Cw,AI,Afj (by omega)]
  |succ m ih=>
   intro k cnt hk hc
   obtain⟨cnt,rfl⟩:∃ c,cnt=c+1:=⟨cnt-1,by omega⟩
   have hih:=ih (k+1) cnt (by omega) (by omega)
   rw[Agz,AhI]at hih
   rw[AQ,Cw,AI,Afk (by omega)]
   simp only[]
   rw[AH (by omega),BI (by simp only[AN,Afu,Af6,Agj,AgQ];omega)]
   exact hih
 have e0:=key N 0 many (by omega) (by omega)
 have e0':AQ Cw many ((N:Int),l,[],(0:Int),())=_:=e0
 have h0:CI N l ((List.range N).map (fun(k:Nat)=>(k:Int))):=by
  refine⟨by simp,fun k hk => ?_⟩
  have:((List.range N).map (fun(k:Nat)=>(k:Int))).getD k 0=(k:Int):=by simp[Afm,hk]
  rw[this]
  exact⟨by omega,by omega,.refl _⟩
 have hb:=OB h0 (by omega)
 obtain⟨out,e1,e2,e3⟩:=AeW N (by omega) l hs ha _ many _ rfl h0 (by omega)
 simp only[Ae,e0',e1]
 have fact:∀ a,In (N:Int) a→0≤cl out a∧cl out a≤a∧Con l a (cl out a):=by
  intro a hia
  obtain⟨k,rfl⟩:=Afy hia.2.2.1
  have:=e2.2 k (by have:=hia.2.2.2;omega)
  simpa [cl]using this
 refine⟨out,rfl,by rw[e2.1],fun a b ia ib=>⟨fun h => ?_,fun h=>h.const e3⟩,fun a ia => ?_,fun a ia=>(fact a ia).2.2,fun a b ia ib h => ?_⟩
 ·have h1:=(fact a ia).2.2
  have h2:=(fact b ib).2.2
  rw[← h]at h2
  exact h1.trans h2.symm
 ·have:=fact a ia
  have h3:=ia.2.2.2
  exact⟨s1,s2,by omega,by omega⟩
 ·have h1:cl out a=cl out b:=h.const e3
  have:=(fact b ib).2.1
  omega
end Go.Pev.Pl
end
end
section
namespace Go.Pev.Pl
def Low(l:List Edge)(k:Nat):Prop:=∀ j:Nat,j<k→¬ Con l (j:Int) (k:Int)
noncomputable def Aaq(l:List Edge)(k:Nat):Bool:=@decide (Low l k) (Classical.propDecidable _)
theorem Ho(l:List Edge)(k:Nat):Aaq l k=true↔Low l k:=by
 unfold Aaq
 exact @decide_eq_true_iff _ (Classical.propDecidable _)
noncomputable def cc(N:Nat)(l:List Edge):Nat:=(List.range N).countP (Aaq l)
noncomputable def Fp(l:List Edge)(a b:Int):Bool:=@decide (Con l a b) (Classical.propDecidable _)
theorem Bl(l:List Edge)(a b:Int):Fp l a b=true↔Con l a b:=by
 unfold Fp
 exact @decide_eq_true_iff _ (Classical.propDecidable _)
theorem IG(l:List Edge)(a b:Int):Fp l a b=false↔¬ Con l a b:=by
 rw[← Bl];cases Fp l a b<;>simp
theorem Con.sub{l l':List Edge}(h:∀ e∈l,e∈l'){a b:Int}(c:Con l a b):Con l' a b:=c.mono fun e he=>⟨e,h e he,.inl ⟨rfl,rfl⟩⟩
theorem Con.cut{l l':List Edge}(h:∀ e∈l,Con l' e.1 e.2.1){a b:Int}(c:Con l a b):Con l' a b:=by
 induction c with
 |refl a=>exact .refl a
 |edge e he=>exact h e he
 |symm _ ih=>exact ih.symm
 |trans _ _ ih1 ih2=>exact ih1.trans ih2
theorem Aap(l:List Edge):∀ v:Nat,∃ m:Nat,m≤v∧Con l (m:Int) (v:Int)∧Low l m:=by
 intro v
 induction v using Nat.strongRecOn with
 |ind v ih=>
  by_cases h:Low l v
  ·exact⟨v,Afw _,.refl _,h⟩
  ·have:∃ j:Nat,j<v∧Con l (j:Int) (v:Int):=AgY fun hn=>h fun j hj hc=>hn ⟨j,hj,hc⟩
   obtain⟨j,hj,hc⟩:=this
   obtain⟨m,h1,h2,h3⟩:=ih j hj
   exact⟨m,by omega,h2.trans hc,h3⟩
theorem Low.le{l:List Edge}{m j:Nat}(h:Low l m)(hc:Con l (m:Int) (j:Int)):m≤j:=by
 refine Nat.le_of_not_lt fun hj=>h j hj hc.symm
theorem Low.uniq{l:List Edge}{a b:Nat}(ha:Low l a)(hb:Low l b)(h:Con l (a:Int) (b:Int)):a=b:=by
 have:=ha.le h
 have:=hb.le h.symm
 omega
theorem Aby{N:Nat}{l l':List Edge}(h:∀ j k:Nat,j<N→k<N→(Con l (j:Int) (k:Int)↔Con l' (j:Int) (k:Int))):cc N l=cc N l':=by
 unfold cc
 refine List.countP_congr fun k hk => ?_
 have hk:k<N:=by simpa using hk
 rw[Ho,Ho]
 constructor
 ·intro q j hj hc;exact q j hj ((h j k (by omega) hk).2 hc)
 ·intro q j hj hc;exact q j hj ((h j k (by omega) hk).1 hc)
theorem ABS{N:Nat}{l l':List Edge}(h:∀ a b,Con l a b↔Con l' a b):cc N l=cc N l':=Aby fun _ _ _ _=>h _ _
theorem AIk{l l':List Edge}(h:∀ e,e∈l↔e∈l'){a b:Int}:Con l a b↔Con l' a b:=⟨fun c=>c.sub fun e he=>(h e).1 he,fun c=>c.sub fun e he=>(h e).2 he⟩
theorem Ad5{N:Nat}{l l':List Edge}(h:l.Perm l'):cc N l=cc N l':=ABS fun _ _=>AIk fun _=>h.mem_iff
theorem AfF(N:Nat):cc N []=N:=by
 unfold cc
 have:(List.range N).countP (Aaq [])=(List.range N).length:=by
  rw[List.countP_eq_length]
  intro k _
  rw[Ho]
  intro j hj hc
  have:=hc.nil
  omega
 rw[this,AgQ]
theorem ABA{P:Nat→Bool}{M:Nat}(hM:P M=true):∀ {xs:List Nat},xs.Nodup→M∈xs→xs.countP P=xs.countP (fun k=>P k && !decide (k=M))+1:=by
 intro xs
 induction xs with
 |nil=>intro _ h;cases h
 |cons x xs ih=>
  intro hn h
  rw[AgG]at hn
  rw[Ahr,Ahr]
  by_cases hx:x=M
  ·subst hx
   have:xs.countP P=xs.countP (fun k=>P k && !decide (k=x)):=by
    refine List.countP_congr fun k hk => ?_
    have:k≠x:=fun e=>hn.1 (e▸hk)
    simp[this]
   simp[hM,this]
  ·have:=ih hn.2 (by rcases Afr.1 h with h|h;exact absurd h.symm hx;exact h)
   rw[this]
   simp[hx]
   omega
def InE(N:Nat)(e:Edge):Prop:=(0≤e.1∧e.1<(N:Int))∧(0≤e.2.1∧e.2.1<(N:Int))
theorem ANz{l:List Edge}{e:Edge}(h:Con l e.1 e.2.1){a b:Int}:Con (l++[e]) a b↔Con l a b:=
 ⟨fun c=>c.cut fun x hx=>by
  rcases Afo.1 hx with hx|hx
  ·exact .edge x hx
  ·rw[AgF]at hx;subst hx;exact h,fun c=>c.sub fun x hx=>Afo.2 (.inl hx)⟩
theorem AUT{N:Nat}{l:List Edge}{e:Edge}(he:InE N e):cc N l=cc N (l++[e])+(if Fp l e.1 e.2.1=true then 0 else 1):=by
 by_cases h:Con l e.1 e.2.1
 ·rw[Af0 ((Bl _ _ _).2 h),AhG]
  exact ABS fun a b=>(ANz h).symm
 ·rw[Afv (fun hh=>h ((Bl _ _ _).1 hh))]
  obtain⟨⟨a1,a2⟩,b1,b2⟩:=he
  obtain⟨u,hu⟩:=Afy a1
  obtain⟨v,hv⟩:=Afy b1
  have hsn:∀ {a b:Int},Con (l++[e]) a b↔Con l a b∨(Con l a (u:Int)∧Con l (v:Int) b)∨(Con l a (v:Int)∧Con l (u:Int) b):=by
   intro a b
   rw[Con.snoc,hu,hv]
  rw[hu,hv]at h
  obtain⟨p,p1,p2,p3⟩:=Aap l u
  obtain⟨q,q1,q2,q3⟩:=Aap l v
  have hpq:p≠q:=fun e=>h (p2.symm.trans (e▸q2))
  have hlow:∀ k:Nat,Low (l++[e]) k↔Low l k∧k≠max p q:=by
   intro k
   constructor
   ·intro hk
    refine⟨fun j hj hc=>hk j hj (hsn.2 (.inl hc)),fun e => ?_⟩
    refine hk (min p q) (by omega) (hsn.2 ?_)
    by_cases hlt:p<q
    ·rw[e,Agm (by omega),Ah1 (by omega)]
     exact .inr (.inl ⟨p2,q2.symm⟩)
    ·rw[e,AiL (by omega),Ah8 (by omega)]
     exact .inr (.inr ⟨q2,p2.symm⟩)
   ·rintro⟨hk,hne⟩ j hj hc
    rcases hsn.1 hc with hc|⟨c1,c2⟩|⟨c1,c2⟩
    ·exact hk j hj hc
    ·have e1:=q3.uniq hk (q2.trans c2)
     have e2:=p3.le (p2.trans c1.symm)
     omega
    ·have e1:=p3.uniq hk (p2.trans c2)
     have e2:=q3.le (q2.trans c1.symm)
     omega
  have hM:Aaq l (max p q)=true:=by
   rw[Ho]
   by_cases hlt:p<q
   ·rw[Ah1 (by omega)];exact q3
   ·rw[Ah8 (by omega)];exact p3
  unfold cc
  rw[ABA hM Aio (by rw[Agt];omega)]
  congr 1
  refine List.countP_congr fun k _ => ?_
  rw[Ho,hlow,Afq,Ho]
  simp
noncomputable def gfl:List Edge→List Edge→List Bool
 |_,[]=>[]
 |b,x::xs=>(!Fp b x.1 x.2.1)::gfl (b++[x]) xs
noncomputable def LG:List Edge→List Edge→List Edge
 |_,[]=>[]
 |b,x::xs=>if Fp b x.1 x.2.1=true then LG (b++[x]) xs else x::LG (b++[x]) xs
theorem Adu:∀ (xs b:List Edge),(gfl b xs).length=xs.length:=by
 intro xs
 induction xs with
 |nil=>intro b;rfl
 |cons x xs ih=>intro b;rw[gfl,Afu,Afu,ih]
theorem ANK:∀ (xs b:List Edge),(LG b xs).Sublist xs:=by
 intro xs
 induction xs with
 |nil=>intro b;exact List.Sublist.refl _
 |cons x xs ih=>
  intro b
  rw[LG]
  split
  ·exact(ih _).cons x
  ·exact(ih _).cons_cons x
theorem ABN:∀ (xs b:List Edge) {a c:Int},Con (b++xs) a c↔Con (b++LG b xs) a c:=by
 intro xs
 induction xs with
 |nil=>intro b a c;rfl
 |cons x xs ih=>
  intro b a c
  have e1:b++x::xs=(b++[x])++xs:=by simp
  rw[e1,ih,LG]
  by_cases h:Con b x.1 x.2.1
  ·rw[Af0 ((Bl _ _ _).2 h)]
   constructor
   ·intro q
    refine q.cut fun y hy => ?_
    rcases Afo.1 hy with hy|hy
    ·rcases Afo.1 hy with hy|hy
     ·exact .edge y (Afo.2 (.inl hy))
     ·rw[AgF]at hy;subst hy
      exact h.sub fun z hz=>Afo.2 (.inl hz)
    ·exact .edge y (Afo.2 (.inr hy))
   ·intro q
    refine q.sub fun y hy => ?_
    rcases Afo.1 hy with hy|hy
    ·simp[hy]
    ·simp[hy]
  ·rw[Afv (fun hh=>h ((Bl _ _ _).1 hh))]
   exact AIk fun y=>by simp
theorem NR{N:Nat}:∀ (xs b:List Edge),(∀ e∈xs,InE N e)→cc N b=cc N (b++xs)+(LG b xs).length:=by
 intro xs
 induction xs with
 |nil=>intro b _;simp[LG]
 |cons x xs ih=>
  intro b h
  have e1:b++x::xs=(b++[x])++xs:=by simp
  rw[AUT (h x (by simp)),ih (b++[x]) (fun e he=>h e (by simp[he])),e1,LG]
  by_cases hc:Fp b x.1 x.2.1=true
  ·rw[Af0 hc,Af0 hc,AhG]
  ·rw[Afv hc,Afv hc,Afu]
   omega
theorem AeN{N:Nat}(xs b:List Edge)(h:∀ e∈xs,InE N e):cc N b≤cc N (b++xs)+xs.length:=by
 have:=NR xs b h
 have:=(ANK xs b).length_le
 omega
def Fo(N:Nat)(l:List Edge):Prop:=cc N l+l.length=N
theorem Fo.perm{N:Nat}{l l':List Edge}(h:Fo N l)(hp:l.Perm l'):Fo N l':=by
 unfold Fo at *
 rw[← Ad5 hp,← hp.length_eq];exact h
theorem Abz{N:Nat}(l:List Edge)(h:∀ e∈l,InE N e):N≤cc N l+l.length:=by
 have:=AeN l [] h
 rw[AfF,AgJ]at this
 exact this
theorem Fo.front{N:Nat}{a b:List Edge}(h:Fo N (a++b))(ha:∀ e∈a,InE N e)(hb:∀ e∈b,InE N e):Fo N a:=by
 unfold Fo at *
 have h1:=Abz a ha
 have h2:=AeN b a hb
 rw[Afs]at h
 omega
theorem AZg{α:Type}{a l:List α}(h:a.Sublist l):∃ r,l.Perm (a++r):=by
 induction h with
 |slnil=>exact⟨[],List.Perm.refl _⟩
 |@cons a l x _ ih=>
  obtain⟨r,hr⟩:=ih
  exact⟨x::r,(hr.cons x).trans (List.perm_middle.symm)⟩
 |@cons_cons a l x _ ih=>
  obtain⟨r,hr⟩:=ih
  exact⟨r,hr.cons x⟩
theorem Fo.sub{N:Nat}{a l:List Edge}(h:Fo N l)(hs:a.Sublist l)(hl:∀ e∈l,InE N e):Fo N a:=by
 obtain⟨r,hr⟩:=AZg hs
 exact(h.perm hr).front (fun e he=>hl e (hr.mem_iff.2 (Afo.2 (.inl he)))) (fun e he=>hl e (hr.mem_iff.2 (Afo.2 (.inr he))))
theorem Fo.LG{N:Nat}{b xs:List Edge}(h:Fo N (b++xs))(hb:∀ e∈b,InE N e)(hx:∀ e∈xs,InE N e):LG b xs=xs:=by
 have h1:=NR xs b hx
 have h2:=h.front hb hx
 unfold Fo at *
 rw[Afs]at h
 exact(ANK xs b).eq_of_length (by omega)
end Go.Pev.Pl
end
section
namespace Go.Pev.Pl
abbrev Tie:=Int×Int×Int×Bool×Unit
abbrev zT:Tie:=(0,0,0,false,())
def ahead(p x:Tie):Prop:=p.1<x.1∨(p.1=x.1∧p.2.1<x.2.1)
instance (p x:Tie):Decidable (ahead p x):=inferInstanceAs (Decidable (_∨_))
def ed(t:Tie):Edge:=(t.1,t.2.1,())
def trk(ts:List Tie)(k:Int):List Edge:=(ts.filter fun t=>t.2.2.2.1&&decide (k≤t.2.2.1)).map ed
theorem Ct{ts:List Tie}{k:Int}{e:Edge}:e∈trk ts k↔∃ t∈ts,t.2.2.2.1=true∧k≤t.2.2.1∧ed t=e:=by
 unfold trk
 simp only[Af7,AgW,Afq,Afn]
 constructor
 ·rintro⟨t,⟨h1,h2,h3⟩,h4⟩;exact⟨t,h1,h2,h3,h4⟩
 ·rintro⟨t,h1,h2,h3,h4⟩;exact⟨t,⟨h1,h2,h3⟩,h4⟩
theorem HT{ts:List Tie}{k k':Int}(h:k≤k'):∀ e∈trk ts k',e∈trk ts k:=by
 intro e he
 obtain⟨t,h1,h2,h3,h4⟩:=Ct.1 he
 exact Ct.2 ⟨t,h1,h2,by omega,h4⟩
noncomputable def csz(N:Nat)(l:List Edge)(v:Int):Nat:=(List.range N).countP fun(w:Nat)=>Fp l v (w:Int)
theorem AIg{N:Nat}{l l':List Edge}{v v':Int}(h:∀ w:Nat,w<N→Con l v (w:Int)→Con l' v' (w:Int)):csz N l v≤csz N l' v':=by
 unfold csz
 refine List.countP_mono_left fun w hw hc => ?_
 rw[Bl]at hc ⊢
 exact h w (by simpa using hw) hc
theorem Ad2{N:Nat}{l:List Edge}{v:Nat}(hv:v<N):1≤csz N l (v:Int):=by
 unfold csz
 refine List.countP_pos_iff.2 ⟨v,by simpa using hv,(Bl _ _ _).2 (.refl _)⟩
theorem Ad1{N:Nat}{l:List Edge}{a b:Nat}(ha:a<N)(hb:b<N)(hab:a≠b)(h:Con l (a:Int) (b:Int)):2≤csz N l (a:Int):=by
 unfold csz
 rw[ABA (P:=fun(w:Nat)=>Fp l (a:Int) (w:Int)) (M:=a) ((Bl _ _ _).2 (.refl _)) Aio (by simpa using ha)]
 have:0<(List.range N).countP (fun(w:Nat)=>Fp l (a:Int) (w:Int) && !decide (w=a)):=by
  refine List.countP_pos_iff.2 ⟨b,by simpa using hb,?_⟩
  rw[Afq,Bl]
  exact⟨h,by simp;omega⟩
 omega
theorem Abs{N:Nat}{l:List Edge}{e:Edge}(h:¬ Con l e.1 e.2.1):csz N (l++[e]) e.1=csz N l e.1+csz N l e.2.1:=by
 unfold csz
 have key:∀ xs:List Nat,xs.countP (fun(w:Nat)=>Fp (l++[e]) e.1 (w:Int))=xs.countP (fun(w:Nat)=>Fp l e.1 (w:Int))+xs.countP (fun(w:Nat)=>Fp l e.2.1 (w:Int)):=by
  intro xs
  induction xs with
  |nil=>rfl
  |cons x xs ih=>
   rw[Ahr,Ahr,Ahr,ih]
   have hs:Con (l++[e]) e.1 (x:Int)↔Con l e.1 (x:Int)∨Con l e.2.1 (x:Int):=by
    rw[Con.snoc]
    constructor
    ·rintro (h|⟨_,h⟩|⟨_,h⟩)
     ·exact .inl h
     ·exact .inr h
     ·exact .inl h
    ·rintro (h|h)
     ·exact .inl h
     ·exact .inr (.inl ⟨.refl _,h⟩)
   by_cases h1:Con l e.1 (x:Int)
   ·have h2:¬ Con l e.2.1 (x:Int):=fun h2=>h (h1.trans h2.symm)
    rw[(Bl _ _ _).2 (hs.2 (.inl h1)),(Bl _ _ _).2 h1,(IG _ _ _).2 h2]
    simp only[AgC,Afz,Af1];omega
   ·by_cases h2:Con l e.2.1 (x:Int)
    ·rw[(Bl _ _ _).2 (hs.2 (.inr h2)),(IG _ _ _).2 h1,(Bl _ _ _).2 h2]
     simp only[AgC,Afz,Af1];omega
    ·rw[(IG _ _ _).2 (fun h=>(hs.1 h).elim h1 h2),(IG _ _ _).2 h1,(IG _ _ _).2 h2]
     simp only[Afz,Af1,AhG]
 exact key _
end Go.Pev.Pl
end
section
namespace Go.Pev.Pl
def Gk(top:Int)(t:Tie):Tie:=(t.1,t.2.1,min top (t.2.2.1+1),t.2.2.2.1,())
def Cg(t:Tie):Tie:=(t.1,t.2.1,t.2.2.1,true,())
def both(S:Int→Bool)(t:Tie):Bool:=S t.1&&S t.2.1
def GY(S:Int→Bool)(t:Tie):Prop:=S t.1≠S t.2.1
instance (S:Int→Bool)(t:Tie):Decidable (GY S t):=inferInstanceAs (Decidable (_≠_))
def rT(S:Int→Bool)(top i:Int)(t:Tie):Tie:=if t.2.2.2.1=true∧t.2.2.1=i∧both S t=true then Gk top t else t
def rO(S:Int→Bool)(top i:Int)(t:Tie):Tie:=if t.2.2.2.1=false∧t.2.2.1=i∧both S t=true then Gk top t else t
def rB(S:Int→Bool)(top i:Int)(t:Tie):Tie:=if t.2.2.1=i∧both S t=true then Gk top t else t
def Au(S:Int→Bool)(top i:Int):List Tie→List Tie×Nat×Option Edge
 |[]=>([],0,none)
 |t::ts=>if t.2.2.2.1=true∨t.2.2.1≠i then(t::(Au S top i ts).1,(Au S top i ts).2)
  else if both S t=true then(Gk top t::(Au S top i ts).1,(Au S top i ts).2.1+1,(Au S top i ts).2.2)
  else if GY S t then(Cg t::ts,0,some (ed t))
  else(t::(Au S top i ts).1,(Au S top i ts).2)
theorem ADy(S:Int→Bool)(top i:Int)(t:Tie):ed (rT S top i t)=ed t:=by unfold rT;split<;>rfl
theorem AZO(S:Int→Bool)(top i:Int)(t:Tie):ed (rO S top i t)=ed t:=by unfold rO;split<;>rfl
theorem Jz(S:Int→Bool)(top i:Int)(t:Tie):(rT S top i t).2.2.2.1=t.2.2.2.1:=by unfold rT;split<;>rfl
theorem AGL(S:Int→Bool)(top i:Int)(t:Tie):(rO S top i t).2.2.2.1=t.2.2.2.1:=by unfold rO;split<;>rfl
theorem AGK{S:Int→Bool}{top i:Int}{t:Tie}(h:t.2.2.1≤top):t.2.2.1≤(rT S top i t).2.2.1∧(rT S top i t).2.2.1≤top:=by
 unfold rT
 split
 ·show t.2.2.1≤min top (t.2.2.1+1)∧min top (t.2.2.1+1)≤top
  omega
 ·omega
theorem APi{S:Int→Bool}{top i:Int}{t:Tie}(h:t.2.2.1≤top):t.2.2.1≤(rO S top i t).2.2.1∧(rO S top i t).2.2.1≤top:=by
 unfold rO
 split
 ·show t.2.2.1≤min top (t.2.2.1+1)∧min top (t.2.2.1+1)≤top
  omega
 ·omega
theorem APh{S:Int→Bool}{top i:Int}{t:Tie}(h:t.2.2.2.1=true):rO S top i t=t:=by
 unfold rO
 rw[Afv]
 rintro⟨a,_⟩
 rw[h]at a;cases a
theorem EW{S:Int→Bool}{top i:Int}{t:Tie}(h:t.2.2.2.1=false):rT S top i t=t:=by
 unfold rT
 rw[Afv]
 rintro⟨a,_⟩
 rw[h]at a;cases a
theorem AFQ{f:Tie→Tie}(k:Int)(h1:∀ t,ed (f t)=ed t)(h2:∀ t,(f t).2.2.2.1=t.2.2.2.1)(ts:List Tie)(h3:∀ t∈ts,t.2.2.2.1=true→(k≤(f t).2.2.1↔k≤t.2.2.1)):trk (ts.map f) k=trk ts k:=by
 induction ts with
 |nil=>rfl
 |cons t ts ih=>
  have:=ih fun x hx=>h3 x (by simp[hx])
  unfold trk at *
  rw[AgM,AhC,AhC,h2]
  have ht:=h3 t (by simp)
  cases hh:t.2.2.2.1
  ·simp only[Ag7,Afz,Af1];exact this
  ·have hd:decide (k≤(f t).2.2.1)=decide (k≤t.2.2.1):=AhM.2 (ht hh)
   rw[hd]
   simp only[Ah6]
   split
   ·rw[AgM,AgM,h1,this]
   ·exact this
section
variable {N:Nat} {top:Int} {O:List Tie} {S:Int→Bool} {i:Int} {c:Int}
theorem OS{k:Int}{e:Edge}:e∈trk (O.map (rT S top i)) k↔∃ t∈O,t.2.2.2.1=true∧k≤(rT S top i t).2.2.1∧ed t=e:=by
 rw[Ct]
 constructor
 ·rintro⟨t,ht,h1,h2,h3⟩
  obtain⟨x,hx,rfl⟩:=Af7.1 ht
  rw[Jz]at h1
  rw[ADy]at h3
  exact⟨x,hx,h1,h2,h3⟩
 ·rintro⟨t,ht,h1,h2,h3⟩
  exact⟨_,Af7.2 ⟨t,ht,rfl⟩,by rw[Jz];exact h1,h2,by rw[ADy];exact h3⟩
theorem CR{k:Int}(hk:k≤i)(hit:i≤top):trk (O.map (rT S top i)) k=trk O k:=by
 refine AFQ k (ADy S top i) (Jz S top i) O fun t _ _ => ?_
 unfold rT
 split
 ·rename_i h
  show k≤min top (t.2.2.1+1)↔_
  omega
 ·rfl
theorem AJv{k:Int}(hk:i+2≤k):trk (O.map (rT S top i)) k=trk O k:=by
 refine AFQ k (ADy S top i) (Jz S top i) O fun t _ _ => ?_
 unfold rT
 split
 ·rename_i h
  show k≤min top (t.2.2.1+1)↔_
  omega
 ·rfl
theorem Jt(hl:∀ t∈O,t.2.2.1≤top)(k:Int):∀ e∈trk O k,e∈trk (O.map (rT S top i)) k:=by
 intro e he
 obtain⟨t,h1,h2,h3,h4⟩:=Ct.1 he
 have:=AGK (S:=S) (i:=i) (hl t h1)
 exact OS.2 ⟨t,h1,h2,by omega,h4⟩
variable (hS:∀ a b,Con (trk O i) a b→S a=S b)
include hS
theorem Abu(hl:∀ t∈O,t.2.2.1≤top)(hit:i+1≤top){a b:Int}(h:Con (trk O i) a b)(ha:S a=true):Con (trk (O.map (rT S top i)) (i+1)) a b:=by
 have key:∀ {a b:Int},Con (trk O i) a b→S a=true→Con (trk (O.map (rT S top i)) (i+1)) a b:=by
  intro a b h
  induction h with
  |refl a=>intro _;exact .refl a
  |edge e he=>
   intro ha
   obtain⟨t,h1,h2,h3,rfl⟩:=Ct.1 he
   have hb:S t.2.1=true:=by
    have:=hS _ _ (.edge _ he)
    exact this.symm.trans ha
   have hm:ed t∈trk (O.map (rT S top i)) (i+1):=by
    refine OS.2 ⟨t,h1,h2,?_,rfl⟩
    by_cases hlv:t.2.2.1=i
    ·unfold rT
     rw[Af0 ⟨h2,hlv,by unfold both;rw[show S t.1=true from ha,hb];rfl⟩]
     show i+1≤min top (t.2.2.1+1)
     omega
    ·have:=AGK (S:=S) (i:=i) (hl t h1)
     omega
   exact .edge _ hm
  |symm h ih=>
   intro ha
   exact(ih (by rw[hS _ _ h];exact ha)).symm
  |trans h1 _ ih1 ih2=>
   intro ha
   exact(ih1 ha).trans (ih2 (by rw[← hS _ _ h1];exact ha))
 exact key h ha
theorem AN0(hit:i≤top){a b:Int}(h:Con (trk (O.map (rT S top i)) (i+1)) a b)(ha:S a=false):Con (trk O (i+1)) a b:=by
 have low:∀ {a b:Int},Con (trk (O.map (rT S top i)) (i+1)) a b→S a=S b:=fun h=>hS _ _ (by
  have:=h.sub (HT (ts:=O.map (rT S top i)) (show i≤i+1 by omega))
  rw[CR (Int.le_refl i) hit]at this
  exact this)
 have key:∀ {a b:Int},Con (trk (O.map (rT S top i)) (i+1)) a b→S a=false→Con (trk O (i+1)) a b:=by
  intro a b h
  induction h with
  |refl a=>intro _;exact .refl a
  |edge e he=>
   intro ha
   obtain⟨t,h1,h2,h3,rfl⟩:=OS.1 he
   refine .edge _ (Ct.2 ⟨t,h1,h2,?_,rfl⟩)
   unfold rT at h3
   rw[Afv]at h3
   ·exact h3
   ·rintro⟨_,_,hb⟩
    unfold both at hb
    rw[show S t.1=false from ha]at hb
    cases hb
  |symm h ih=>
   intro ha
   exact(ih (by rw[low h];exact ha)).symm
  |trans h1 _ ih1 ih2=>
   intro ha
   exact(ih1 ha).trans (ih2 (by rw[← low h1];exact ha))
 exact key h ha
end
end Go.Pev.Pl
end
section
namespace Go.Pev.Pl
theorem Fo.ATw{N:Nat}{l:List Edge}{e:Edge}(h:Fo N (l++[e]))(hl:∀ x∈l,InE N x)(he:InE N e):¬ Con l e.1 e.2.1:=by
 intro hc
 have h1:=AUT (N:=N) (l:=l) he
 rw[Af0 ((Bl _ _ _).2 hc)]at h1
 have h2:=Abz l hl
 unfold Fo at h
 rw[Afs,List.length_singleton]at h
 omega
theorem Wm{N:Nat}{O:List Tie}(h:∀ x∈O,InE N (ed x))(k:Int):∀ e∈trk O k,InE N e:=by
 intro e he
 obtain⟨t,h1,_,_,rfl⟩:=Ct.1 he
 exact h t h1
theorem DF(A B:List Tie)(k:Int):trk (A++B) k=trk A k++trk B k:=by
 unfold trk;rw[AhB,AhI]
theorem Rc(S:Int→Bool)(top i:Int)(A:List Tie)(k:Int):trk (A.map (rO S top i)) k=trk A k:=
 AFQ k (AZO S top i) (AGL S top i) A fun t _ h=>by rw[APh h]
structure Snd(N:Nat)(top:Int)(O:List Tie):Prop where
 lvl:∀ x∈O,0≤x.2.2.1∧x.2.2.1≤top
 ins:∀ x∈O,InE N (ed x)
 fo:Fo N (trk O 0)
 lie:∀ x∈O,x.2.2.2.1=false→Con (trk O x.2.2.1) x.1 x.2.1
 halv:∀ k:Nat,(k:Int)≤top→∀ v:Nat,v<N→csz N (trk O k) v≤max 1 (N/2 ^ k)
structure Nz(N:Nat)(top:Int)(t:Edge)(j:Int)(O:List Tie):Prop where
 lvl:∀ x∈O,0≤x.2.2.1∧x.2.2.1≤top
 ins:∀ x∈O,InE N (ed x)
 it:InE N t
 fo:Fo N (trk O 0++[t])
 lie1:∀ x∈O,x.2.2.2.1=false→j≤x.2.2.1→Con (trk O x.2.2.1) x.1 x.2.1
 lie2:∀ x∈O,x.2.2.2.1=false→x.2.2.1<j→Con (trk O x.2.2.1++[t]) x.1 x.2.1
 halv:∀ k:Nat,(k:Int)≤top→∀ v:Nat,v<N→csz N (trk O k) v≤max 1 (N/2 ^ k)
 halt:∀ k:Nat,(k:Int)<j→(k:Int)≤top→∀ v:Nat,v<N→csz N (trk O k++[t]) v≤max 1 (N/2 ^ k)
structure O6(N:Nat)(t:Edge)(i:Nat)(O:List Tie)(S:Int→Bool)(c:Nat):Prop where
 cN:c<N
 at_:t.1=(c:Int)∨t.2.1=(c:Int)
 side:∀ w:Nat,w<N→(S (w:Int)=true↔Con (trk O i) (c:Int) (w:Int))
 less:2*csz N (trk O i) (c:Int)≤csz N (trk O i) t.1+csz N (trk O i) t.2.1
section
variable {N:Nat} {top:Int} {t:Edge} {O:List Tie} {S:Int→Bool} {i c:Nat}
theorem O6.closed(hL:O6 N t i O S c)(hi:∀ x∈O,InE N (ed x)):∀ a b,Con (trk O i) a b→S a=S b:=by
 intro a b h
 rcases Con.within (I:=fun a=>0≤a∧a<(N:Int)) (fun e he=>Wm hi i e he) h with rfl|⟨⟨a1,a2⟩,b1,b2⟩
 ·rfl
 ·obtain⟨u,rfl⟩:=Afy a1
  obtain⟨v,rfl⟩:=Afy b1
  have h1:=hL.side u (by omega)
  have h2:=hL.side v (by omega)
  rw[AhA,h1,h2]
  exact⟨fun q=>q.trans h,fun q=>q.trans h.symm⟩
theorem O6.AUI(hL:O6 N t i O S c):S (c:Int)=true:=(hL.side c hL.cN).2 (.refl _)
theorem O6.con(hL:O6 N t i O S c){a b:Int}(ia:0≤a∧a<(N:Int))(ib:0≤b∧b<(N:Int))(ha:S a=true)(hb:S b=true):Con (trk O i) a b:=by
 obtain⟨u,rfl⟩:=Afy ia.1
 obtain⟨v,rfl⟩:=Afy ib.1
 exact((hL.side u (by omega)).1 ha).symm.trans ((hL.side v (by omega)).1 hb)
variable (hG:Nz N top t ((i:Int)+1) O) (hit:(i:Int)≤top) (hL:O6 N t i O S c)
include hG
theorem Nz.apart(k:Nat):¬ Con (trk O (k:Int)) t.1 t.2.1:=fun h=>hG.fo.ATw (Wm hG.ins 0) hG.it (h.sub (HT (by omega)))
include hit hL
theorem Nz.half(hi1:(i:Int)+1≤top):csz N (trk O i) (c:Int)≤N/2 ^ (i+1):=by
 obtain⟨⟨a1,a2⟩,b1,b2⟩:=hG.it
 obtain⟨u,hu⟩:=Afy a1
 have hj:=Abs (N:=N) (hG.apart i)
 have hh:=hG.halt i (by omega) hit u (by omega)
 rw[← hu,hj]at hh
 have hp:=Ad2 (N:=N) (l:=trk O i) hL.cN
 have hl:=hL.less
 have e:N/2 ^ (i+1)=N/2 ^ i/2:=by rw[Nat.pow_succ,Nat.div_div_eq_div_mul]
 rw[e]
 omega
theorem Nz.AeM(k:Nat)(hk:(k:Int)≤top)(v:Nat)(hv:v<N):csz N (trk (O.map (rT S top i)) k) v≤max 1 (N/2 ^ k):=by
 have hS:=hL.closed hG.ins
 have hl:∀ x∈O,x.2.2.1≤top:=fun x hx=>(hG.lvl x hx).2
 rcases AiC k (i+1)with h|rfl|h
 ·rw[CR (by omega) hit];exact hG.halv k hk v hv
 ·cases hsv:S (v:Int)
  ·refine Ag2 (AIg fun w hw hc => ?_) (hG.halv (i+1) hk v hv)
   have:=AN0 hS hit (a:=(v:Int)) (b:=(w:Int)) (by simpa using hc) hsv
   simpa using this
  ·have hle:csz N (trk (O.map (rT S top i)) ((i+1:Nat):Int)) v≤csz N (trk O i) (c:Int):=AIg fun w hw hc=>by
    have h1:=hc.sub (HT (ts:=O.map (rT S top i)) (show(i:Int)≤((i+1:Nat):Int) by omega))
    rw[CR (Int.le_refl _) hit]at h1
    exact((hL.side v hv).1 hsv).trans h1
   have:=hG.half hit hL (by omega)
   omega
 ·rw[AJv (by omega)];exact hG.halv k hk v hv
omit hL
theorem Ya{x:Tie}(hx:x∈O.map (rT S top i))(h:x.2.2.2.1=false):x∈O:=by
 obtain⟨y,hy,rfl⟩:=Af7.1 hx
 rw[Jz]at h
 rw[EW h];exact hy
include hL
theorem Nz.AAC{x:Tie}(hx:x∈O)(h1:x.2.2.1=(i:Int))(h2:both S x=true):Con (trk (O.map (rT S top i)) (min top (x.2.2.1+1))) x.1 x.2.1:=by
 have hS:=hL.closed hG.ins
 unfold both at h2
 rw[Afq]at h2
 have hc:=hL.con (hG.ins x hx).1 (hG.ins x hx).2 h2.1 h2.2
 by_cases hi1:(i:Int)+1≤top
 ·rw[h1,Int.min_eq_right hi1]
  exact Abu hS (fun x hx=>(hG.lvl x hx).2) hi1 hc h2.1
 ·rw[h1,Int.min_eq_left (by omega),show top=(i:Int) by omega]
  have:=CR (O:=O) (S:=S) (top:=top) (i:=(i:Int)) (k:=(i:Int)) (Int.le_refl _) hit
  rw[show top=(i:Int) by omega]at this
  rw[this];exact hc
theorem Nz.next(hno:∀ x∈O.map (rT S top i),x.2.2.2.1=false→x.2.2.1=(i:Int)→¬ GY S x):Nz N top t (i:Int) ((O.map (rT S top i)).map (rO S top i)):=by
 have hS:=hL.closed hG.ins
 have hl:∀ x∈O,x.2.2.1≤top:=fun x hx=>(hG.lvl x hx).2
 have hmem:∀ x∈(O.map (rT S top i)).map (rO S top i),∃ y∈O,x=rO S top i (rT S top i y):=fun x hx=>by
  obtain⟨z,hz,rfl⟩:=Af7.1 hx
  obtain⟨y,hy,rfl⟩:=Af7.1 hz
  exact⟨y,hy,rfl⟩
 have hlv:∀ y∈O,y.2.2.1≤(rO S top i (rT S top i y)).2.2.1∧(rO S top i (rT S top i y)).2.2.1≤top:=fun y hy=>by
  have h1:=AGK (S:=S) (i:=(i:Int)) (hl y hy)
  have h2:=APi (S:=S) (i:=(i:Int)) h1.2
  omega
 have hoth:∀ x∈(O.map (rT S top i)).map (rO S top i),x.2.2.2.1=false→∃ y∈O,y.2.2.2.1=false∧x=rO S top i y:=fun x hx h=>by
  obtain⟨y,hy,rfl⟩:=hmem x hx
  rw[AGL,Jz]at h
  exact⟨y,hy,h,by rw[EW h]⟩
 refine⟨fun x hx => ?_,fun x hx => ?_,hG.it,?_,fun x hx h hj => ?_,fun x hx h hj => ?_,fun k hk v hv => ?_,fun k hk1 hk2 v hv => ?_⟩
 ·obtain⟨y,hy,rfl⟩:=hmem x hx
  have:=hlv y hy
  have:=(hG.lvl y hy).1
  omega
 ·obtain⟨y,hy,rfl⟩:=hmem x hx
  rw[AZO,ADy];exact hG.ins y hy
 ·rw[Rc,CR (by omega) hit];exact hG.fo
 ·obtain⟨y,hy,hf,rfl⟩:=hoth x hx h
  rw[Rc]
  by_cases hr:y.2.2.1=(i:Int)∧both S y=true
  ·have he:rO S top i y=Gk top y:=by unfold rO;rw[Af0 ⟨hf,hr.1,hr.2⟩]
   rw[he]
   exact hG.AAC hit hL hy hr.1 hr.2
  ·have he:rO S top i y=y:=by unfold rO;rw[Afv (fun q=>hr ⟨q.2.1,q.2.2⟩)]
   rw[he]at hj ⊢
   by_cases hi:y.2.2.1=(i:Int)
   ·have hnb:¬ both S y=true:=fun q=>hr ⟨hi,q⟩
    have hne:=hno y (Af7.2 ⟨y,hy,EW hf⟩) hf hi
    have h2:=hG.lie2 y hy hf (by omega)
    rw[hi,CR (Int.le_refl _) hit]
    rw[hi]at h2
    unfold GY at hne
    have hne:=Ahv.1 hne
    have hfalse:S y.1=false∧S y.2.1=false:=by
     unfold both at hnb
     rw[← hne]at hnb ⊢
     cases hsy:S y.1
     ·exact⟨rfl,rfl⟩
     ·rw[hsy]at hnb;exact absurd rfl hnb
    rw[Con.snoc]at h2
    rcases h2 with h2|⟨q1,q2⟩|⟨q1,q2⟩
    ·exact h2
    ·have e1:=hS _ _ q1
     have e2:=hS _ _ q2
     rcases hL.at_ with hc|hc
     ·rw[hc,hL.AUI,hfalse.1]at e1;cases e1
     ·rw[hc,hL.AUI,hfalse.2]at e2;cases e2
    ·have e1:=hS _ _ q1
     have e2:=hS _ _ q2
     rcases hL.at_ with hc|hc
     ·rw[hc,hL.AUI,hfalse.2]at e2;cases e2
     ·rw[hc,hL.AUI,hfalse.1]at e1;cases e1
   ·exact(hG.lie1 y hy hf (by omega)).sub (Jt hl _)
 ·obtain⟨y,hy,hf,rfl⟩:=hoth x hx h
  have h1:=APi (S:=S) (i:=(i:Int)) (hl y hy)
  have he:rO S top i y=y:=by unfold rO;rw[Afv (fun q=>by have:=q.2.1;omega)]
  rw[he]at hj ⊢
  rw[Rc,CR (by omega) hit]
  exact hG.lie2 y hy hf (by omega)
 ·rw[Rc];exact hG.AeM hit hL k hk v hv
 ·rw[Rc,CR (by omega) hit];exact hG.halt k (by omega) hk2 v hv
theorem Nz.found{A B:List Tie}{x:Tie}(hsp:O.map (rT S top i)=A++x::B)(hf:x.2.2.2.1=false)(hi:x.2.2.1=(i:Int))(hx:GY S x):
  Snd N top (A.map (rO S top i)++Cg x::B)∧Con (trk (A.map (rO S top i)++Cg x::B) 0) t.1 t.2.1:=by
 have hS:=hL.closed hG.ins
 have hl:∀ x∈O,x.2.2.1≤top:=fun x hx=>(hG.lvl x hx).2
 have hxM:x∈O.map (rT S top i):=by rw[hsp];simp
 have hxO:x∈O:=Ya hG hit hxM hf
 have hAm:∀ y∈A,y∈O.map (rT S top i):=fun y hy=>by rw[hsp];simp[hy]
 have hBm:∀ y∈B,y∈O.map (rT S top i):=fun y hy=>by rw[hsp];simp[hy]
 have hml:∀ y∈O.map (rT S top i),0≤y.2.2.1∧y.2.2.1≤top:=fun y hy=>by
  obtain⟨z,hz,rfl⟩:=Af7.1 hy
  have:=AGK (S:=S) (i:=(i:Int)) (hl z hz)
  have:=(hG.lvl z hz).1
  omega
 have hme:∀ y∈O.map (rT S top i),InE N (ed y):=fun y hy=>by
  obtain⟨z,hz,rfl⟩:=Af7.1 hy
  rw[ADy];exact hG.ins z hz
 have hxt:trk [x]=fun _=>[]:=by
  funext k
  unfold trk
  rw[AhC,hf]
  rfl
 have hat:∀ k,trk [Cg x] k=if k≤(i:Int)then [ed x]else []:=by
  intro k
  unfold trk
  have q1:(Cg x).2.2.1=(i:Int):=hi
  have q2:(Cg x).2.2.2.1=true:=rfl
  rw[AhC,q1,q2]
  by_cases hk:k≤(i:Int)
  ·rw[Af0 hk,Afk hk];rfl
  ·rw[Afv hk,Afj hk];rfl
 have hM:∀ k,trk (O.map (rT S top i)) k=trk A k++trk B k:=by
  intro k
  rw[hsp,show A++x::B=A++([x]++B)from rfl,DF,DF,hxt,AgJ]
 have hO':∀ k,trk (A.map (rO S top i)++Cg x::B) k=trk A k++((if k≤(i:Int)then [ed x]else [])++trk B k):=by
  intro k
  rw[show A.map (rO S top i)++Cg x::B=A.map (rO S top i)++([Cg x]++B)from rfl,DF,DF,Rc,hat]
 have hsup:∀ k,∀ e∈trk (O.map (rT S top i)) k,e∈trk (A.map (rO S top i)++Cg x::B) k:=by
  intro k e he
  rw[hM]at he
  rw[hO']
  rcases Afo.1 he with he|he
  ·exact Afo.2 (.inl he)
  ·exact Afo.2 (.inr (Afo.2 (.inr he)))
 have hxin:∀ k,k≤(i:Int)→ed x∈trk (A.map (rO S top i)++Cg x::B) k:=by
  intro k hk
  rw[hO',Af0 hk];simp
 have h2:=hG.lie2 x hxO hf (by omega)
 rw[hi]at h2
 have ht:Con (trk O i++[ed x]) t.1 t.2.1:=by
  have up:∀ {a b:Int},Con (trk O i) a b→Con (trk O i++[ed x]) a b:=fun c=>c.sub fun e he=>Afo.2 (.inl he)
  have hxe:Con (trk O i++[ed x]) x.1 x.2.1:=.edge (l:=trk O i++[ed x]) (ed x) (by simp)
  rw[Con.snoc]at h2
  rcases h2 with h2|⟨q1,q2⟩|⟨q1,q2⟩
  ·exact absurd (hS _ _ h2) hx
  ·exact((up q1).symm.trans hxe).trans (up q2).symm
  ·exact((up q2).trans hxe.symm).trans (up q1)
 have ht':∀ k,k≤(i:Int)→Con (trk (A.map (rO S top i)++Cg x::B) k) t.1 t.2.1:=by
  intro k hk
  refine ht.sub fun e he => ?_
  rcases Afo.1 he with he|he
  ·exact HT hk _ (hsup _ _ (Jt hl _ _ he))
  ·rw[AgF]at he;subst he;exact hxin k hk
 refine⟨⟨fun y hy => ?_,fun y hy => ?_,?_,fun y hy h => ?_,fun k hk v hv => ?_⟩,ht' 0 (by omega)⟩
 ·rcases Afo.1 hy with hy|hy
  ·obtain⟨z,hz,rfl⟩:=Af7.1 hy
   have h1:=hml z (hAm z hz)
   have:=APi (S:=S) (i:=(i:Int)) h1.2
   omega
  ·rcases Afr.1 hy with rfl|hy
   ·exact hG.lvl x hxO
   ·exact hml y (hBm y hy)
 ·rcases Afo.1 hy with hy|hy
  ·obtain⟨z,hz,rfl⟩:=Af7.1 hy
   rw[AZO];exact hme z (hAm z hz)
  ·rcases Afr.1 hy with rfl|hy
   ·exact hG.ins x hxO
   ·exact hme y (hBm y hy)
 ·rw[hO',Af0 (by omega)]
  have hM0:=hM 0
  rw[CR (by omega) hit]at hM0
  have hp:(trk A 0++([ed x]++trk B 0)).Perm (trk O 0++[ed x]):=by
   rw[hM0,AgP]
   exact List.Perm.append_left _ AhW
  refine Fo.perm ?_ hp.symm
  have hfo:=hG.fo
  have hcc:cc N (trk O 0++[ed x])=cc N (trk O 0++[t]):=ABS fun a b=>by
   have m0:=HT (ts:=O) (show(0:Int)≤(i:Int) by omega)
   constructor
   ·intro c
    refine c.cut fun e he => ?_
    rcases Afo.1 he with he|he
    ·exact .edge _ (Afo.2 (.inl he))
    ·rw[AgF]at he;subst he
     refine h2.sub fun e he => ?_
     rcases Afo.1 he with he|he
     ·exact Afo.2 (.inl (m0 _ he))
     ·exact Afo.2 (.inr he)
   ·intro c
    refine c.cut fun e he => ?_
    rcases Afo.1 he with he|he
    ·exact .edge _ (Afo.2 (.inl he))
    ·rw[AgF]at he;subst he
     refine ht.sub fun e he => ?_
     rcases Afo.1 he with he|he
     ·exact Afo.2 (.inl (m0 _ he))
     ·exact Afo.2 (.inr he)
  unfold Fo at hfo ⊢
  rw[hcc,Afs]at *
  exact hfo
 ·-- others
  have key:∀ y:Tie,y∈O→y.2.2.2.1=false→Con (trk (A.map (rO S top i)++Cg x::B) y.2.2.1) y.1 y.2.1:=by
   intro y hy h
   by_cases hle:y.2.2.1≤(i:Int)
   ·refine(hG.lie2 y hy h (by omega)).cut fun e he => ?_
    rcases Afo.1 he with he|he
    ·exact .edge _ (hsup _ _ (Jt hl _ _ he))
    ·rw[AgF]at he;subst he;exact ht' _ hle
   ·exact(hG.lie1 y hy h (by omega)).sub fun e he=>hsup _ _ (Jt hl _ _ he)
  rcases Afo.1 hy with hy|hy
  ·obtain⟨z,hz,rfl⟩:=Af7.1 hy
   rw[AGL]at h
   have hzO:=Ya hG hit (hAm z hz) h
   by_cases hr:z.2.2.1=(i:Int)∧both S z=true
   ·have he:rO S top i z=Gk top z:=by unfold rO;rw[Af0 ⟨h,hr.1,hr.2⟩]
    rw[he]
    exact(hG.AAC hit hL hzO hr.1 hr.2).sub (hsup _)
   ·have he:rO S top i z=z:=by unfold rO;rw[Afv (fun q=>hr ⟨q.2.1,q.2.2⟩)]
    rw[he]
    exact key z hzO h
  ·rcases Afr.1 hy with rfl|hy
   ·cases h
   ·exact key y (Ya hG hit (hBm y hy) h) h
 ·by_cases hki:(k:Int)≤(i:Int)
  ·refine Ag2 (AIg fun w hw hc => ?_) (hG.halt k (by omega) hk v hv)
   refine hc.cut fun e he => ?_
   rw[hO',Af0 hki]at he
   have hMk:=hM (k:Int)
   rw[CR hki hit]at hMk
   rcases Afo.1 he with he|he
   ·exact .edge _ (Afo.2 (.inl (by rw[hMk];simp[he])))
   ·rcases Afo.1 he with he|he
    ·rw[AgF]at he;subst he
     refine h2.sub fun e he => ?_
     rcases Afo.1 he with he|he
     ·exact Afo.2 (.inl (HT hki _ he))
     ·exact Afo.2 (.inr he)
    ·exact .edge _ (Afo.2 (.inl (by rw[hMk];simp[he])))
  ·have:trk (A.map (rO S top i)++Cg x::B) (k:Int)=trk (O.map (rT S top i)) (k:Int):=by
    rw[hO',Afv hki,hM];rfl
   rw[this]
   exact hG.AeM hit hL k hk v hv
end
theorem Nz.end{N:Nat}{top:Int}{t:Edge}{O:List Tie}(h:Nz N top t 0 O):Snd N top O∧¬ Con (trk O 0) t.1 t.2.1:=by
 refine⟨⟨h.lvl,h.ins,h.fo.front (Wm h.ins 0) (fun e he=>by rw[AgF]at he;subst he;exact h.it),fun x hx hf=>h.lie1 x hx hf (h.lvl x hx).1,h.halv⟩,h.fo.ATw (Wm h.ins 0) h.it⟩
theorem Snd.other{N:Nat}{top:Int}{P Q:List Tie}{t:Tie}(h:Snd N top (P++t::Q))(ht:t.2.2.2.1=false):Snd N top (P++Q):=by
 have hm:∀ x∈P++Q,x∈P++t::Q:=fun x hx=>by
  rcases Afo.1 hx with hx|hx
  ·simp[hx]
  ·simp[hx]
 have htk:∀ k,trk (P++t::Q) k=trk (P++Q) k:=by
  intro k
  rw[show P++t::Q=P++([t]++Q)from rfl,DF,DF,DF]
  congr 1
  unfold trk
  rw[AhC,ht]
  rfl
 refine⟨fun x hx=>h.lvl x (hm x hx),fun x hx=>h.ins x (hm x hx),by rw[← htk];exact h.fo,fun x hx hf=>by rw[← htk];exact h.lie x (hm x hx) hf,fun k hk v hv=>by rw[← htk];exact h.halv k hk v hv⟩
theorem Snd.span{N:Nat}{top:Int}{O:List Tie}(h:Snd N top O)(a b:Int):Con (O.map ed) a b↔Con (trk O 0) a b:=by
 constructor
 ·intro c
  refine c.cut fun e he => ?_
  obtain⟨x,hx,rfl⟩:=Af7.1 he
  cases hf:x.2.2.2.1
  ·exact(h.lie x hx hf).sub (HT (h.lvl x hx).1)
  ·exact .edge _ (Ct.2 ⟨x,hx,hf,(h.lvl x hx).1,rfl⟩)
 ·intro c
  refine c.sub fun e he => ?_
  obtain⟨x,h1,_,_,rfl⟩:=Ct.1 he
  exact Af7.2 ⟨x,h1,rfl⟩
end Go.Pev.Pl
end
section
namespace Go.Pev.Pl
theorem Snd.below{N:Nat}{top:Nat}{O:List Tie}(h:Snd N (top:Int) O)(hN:N/2 ^ top≤1){x:Tie}(hx:x∈O)(hne:x.1≠x.2.1):x.2.2.1<(top:Int):=by
 have hl:=h.lvl x hx
 refine AgY fun hn => ?_
 have he:x.2.2.1=(top:Int):=by omega
 obtain⟨⟨a1,a2⟩,b1,b2⟩:=h.ins x hx
 obtain⟨u,hu⟩:=Afy a1
 obtain⟨v,hv⟩:=Afy b1
 have hc:Con (trk O (top:Int)) x.1 x.2.1:=by
  cases hf:x.2.2.2.1
  ·have:=h.lie x hx hf
   rw[he]at this;exact this
  ·exact .edge (l:=trk O (top:Int)) (ed x) (Ct.2 ⟨x,hx,hf,by omega,rfl⟩)
 have hu':x.1=(u:Int):=hu
 have hv':x.2.1=(v:Int):=hv
 rw[hu',hv']at hc hne
 have h2:=Ad1 (N:=N) (a:=u) (b:=v) (by omega) (by omega) (by omega) hc
 have h3:=h.halv top (Int.le_refl _) u (by omega)
 omega
theorem Snd.grown{N:Nat}{top:Int}{O O':List Tie}{come:List Edge}{new:List Tie}(h:Snd N top O)(ht:0≤top)(hp:O'.Perm (O++new))(hc:∀ e∈come,InE N e)
  (hn:∀ x∈new,x.2.2.1=0∧ed x∈come) (htr:(trk O' 0).Perm (trk O 0++LG (trk O 0) come)):Snd N top O':=by
 have hmem:∀ x,x∈O'↔x∈O∨x∈new:=fun x=>by rw[hp.mem_iff,Afo]
 have hk:∀ k:Int,0<k→∀ e,e∈trk O' k↔e∈trk O k:=by
  intro k hk e
  rw[Ct,Ct]
  constructor
  ·rintro⟨t,h1,h2,h3,h4⟩
   rcases(hmem t).1 h1 with h1|h1
   ·exact⟨t,h1,h2,h3,h4⟩
   ·have:=(hn t h1).1;omega
  ·rintro⟨t,h1,h2,h3,h4⟩
   exact⟨t,(hmem t).2 (.inl h1),h2,h3,h4⟩
 have hsup:∀ k:Int,∀ e∈trk O k,e∈trk O' k:=fun k e he=>by
  obtain⟨t,h1,h2,h3,h4⟩:=Ct.1 he
  exact Ct.2 ⟨t,(hmem t).2 (.inl h1),h2,h3,h4⟩
 refine⟨fun x hx => ?_,fun x hx => ?_,?_,fun x hx hf => ?_,fun k hkt v hv => ?_⟩
 ·rcases(hmem x).1 hx with hx|hx
  ·exact h.lvl x hx
  ·have:=(hn x hx).1;omega
 ·rcases(hmem x).1 hx with hx|hx
  ·exact h.ins x hx
  ·exact hc _ (hn x hx).2
 ·refine Fo.perm ?_ htr.symm
  have h1:=NR come (trk O 0) hc
  have h2:cc N (trk O 0++come)=cc N (trk O 0++LG (trk O 0) come):=ABS fun a b=>ABN come (trk O 0)
  have h3:=h.fo
  unfold Fo at *
  rw[Afs]
  omega
 ·rcases(hmem x).1 hx with hx|hx
  ·exact(h.lie x hx hf).sub (hsup _)
  ·obtain⟨h0,he⟩:=hn x hx
   rw[h0,AIk fun e=>htr.mem_iff,← ABN]
   exact .edge (l:=trk O 0++come) (ed x) (Afo.2 (.inr he))
 ·by_cases hk0:k=0
  ·subst hk0
   have:csz N (trk O' ((0:Nat):Int)) (v:Int)≤N:=by
    unfold csz
    have:=List.countP_le_length (p:=fun(w:Nat)=>Fp (trk O' ((0:Nat):Int)) (v:Int) (w:Int)) (l:=List.range N)
    rw[AgQ]at this
    exact this
   simp only[Nat.pow_zero,Nat.div_one]
   omega
  ·exact Ag2 (AIg fun w hw c=>c.sub fun e he=>(hk k (by omega) e).1 he) (h.halv k hkt v hv)
end Go.Pev.Pl
end
section
namespace Go.Pev.Pl
theorem Ab2{σ ρ:Type}{step:σ→Option (σ⊕ρ)}(st:Nat→Nat→σ)(P:Nat→Bool)(fin:Nat→ρ)(lo hi:Nat)
  (h:∀ i j,lo≤i→i<j→j≤hi→step (st i j)=some (.inl (if P ((i+j)/2)=true then st ((i+j)/2+1) j else st i ((i+j)/2))))
  (hN:∀ i,lo≤i→i≤hi→step (st i i)=some (.inr (fin i)))
  (mono:∀ x y,lo≤x→x≤y→y<hi→P y=true→P x=true) :
  ∀ (m i j n:Nat),j-i=m→lo≤i→i≤j→j≤hi→m<n→(∀ x,lo≤x→x<i→P x=true)→(∀ x,j≤x→x<hi→P x=false) →
  ∃ k,lo≤k∧k≤hi∧(∀ x,lo≤x→x<k→P x=true)∧(∀ x,k≤x→x<hi→P x=false)∧AQ step n (st i j)=some (fin k):=by
 intro m
 induction m using Nat.strongRecOn with
 |ind m ih=>
  intro i j n hm hi hij hj hn h1 h2
  obtain⟨n,rfl⟩:∃ k,n=k+1:=⟨n-1,by omega⟩
  by_cases he:i=j
  ·subst he
   exact⟨i,hi,hj,h1,h2,by rw[AQ,hN i hi hj]⟩
  ·have hlt:i<j:=by omega
   rw[AQ,h i j hi hlt hj]
   by_cases hp:P ((i+j)/2)=true
   ·rw[Af0 hp]
    exact ih (j-((i+j)/2+1)) (by omega) ((i+j)/2+1) j n rfl (by omega) (by omega) hj (by omega) (fun x a b=>mono x ((i+j)/2) a (by omega) (by omega) hp) h2
   ·rw[Afv hp]
    refine ih ((i+j)/2-i) (by omega) i ((i+j)/2) n rfl hi (by omega) (by omega) (by omega) h1 (fun x a b => ?_)
    cases hx:P x
    ·rfl
    ·exact absurd (mono ((i+j)/2) x (by omega) a b hx) hp
theorem Afe{σ ρ:Type}{step:σ→Option (σ⊕ρ)}(st:Nat→Nat→σ)(P:Nat→Bool)(fin:Nat→ρ)(lo hi:Nat)(hlh:lo≤hi)(hs:hi<9223372036854775808)
  (h:∀ i j,lo≤i→i<j→j≤hi→step (st i j)=some (.inl (if P ((i+j)/2)=true then st ((i+j)/2+1) j else st i ((i+j)/2))))
  (hN:∀ i,lo≤i→i≤hi→step (st i i)=some (.inr (fin i)))
  (mono:∀ x y,lo≤x→x≤y→y<hi→P y=true→P x=true) :
  ∃ k,lo≤k∧k≤hi∧(∀ x,lo≤x→x<k→P x=true)∧(∀ x,k≤x→x<hi→P x=false)∧AR step many (st lo hi)=some (fin k):=by
 have hm:9223372036854775808<many:=by simp only[many];omega
 rw[Ae]
 exact Ab2 st P fin lo hi h hN mono (hi-lo) lo hi many rfl (Afw _) hlh (Afw _) (by omega) (fun x a b=>by omega) (fun x a b=>by omega)
end Go.Pev.Pl
end
section
section
namespace Go.Pev.Pl
structure UF(N:Nat)(s:List Int)(c:Int→Int):Prop where
 len:s.length=N
 lo:∀ k,k<N→0≤s.getD k 0∧s.getD k 0≤(k:Int)
 par:∀ k,k<N→c (s.getD k 0)=c (k:Int)
 root:∀ k,k<N→s.getD k 0=(k:Int)→c (k:Int)=(k:Int)
 le:∀ k,k<N→0≤c (k:Int)∧c (k:Int)≤(k:Int)
theorem UF.idem{N:Nat}{s:List Int}{c:Int→Int}(h:UF N s c):∀ (m k:Nat),k≤m→k<N→c (c (k:Int))=c (k:Int):=by
 intro m
 induction m with
 |zero=>
  intro k hk hN
  have:=h.le k hN
  have e:c (k:Int)=(k:Int):=by omega
  rw[e,e]
 |succ m ih=>
  intro k hk hN
  have h1:=h.lo k hN
  by_cases hr:s.getD k 0=(k:Int)
  ·have e:=h.root k hN hr
   rw[e,e]
  ·obtain⟨j,hj⟩:=Afy h1.1
   have hp:=h.par k hN
   rw[hj]at hp
   rw[← hp]
   exact ih j (by omega) (by omega)
theorem UF.top{N:Nat}{s:List Int}{c:Int→Int}(h:UF N s c){k:Nat}(hk:k<N):s.getD (c (k:Int)).toNat 0=c (k:Int):=by
 have h1:=h.le k hk
 obtain⟨j,hj⟩:=Afy h1.1
 have hi:=h.idem k k (Afw _) hk
 rw[hj]at hi ⊢
 have hjN:j<N:=by omega
 have h2:=h.lo j hjN
 have hp:=h.par j hjN
 obtain⟨i,hi'⟩:=Afy h2.1
 rw[hi']at hp
 have h3:=h.le i (by omega)
 show s.getD j 0=_
 omega
theorem Ic(a b:Int):Bt a b=min a b:=by unfold Bt;split<;>omega
theorem XC(a b:Int):imax a b=max a b:=by unfold imax;split<;>omega
theorem ED{N i x:Nat}(h:(List.range N)[i]? = some x):x=i:=by
 rw[AgN]at h
 obtain⟨h1,h2⟩:=h
 simpa using h2.symm
def AeI(c:Int→Int)(u v:Int):Int→Int:=fun x=>if c x=max (c u) (c v)then min (c u) (c v)else c x
def AcA(N:Nat)(c:Int→Int)(l:List Edge):Prop:=∀ a b,In (N:Int) a→In (N:Int) b→(c a=c b↔Con l a b)
theorem AcA.snoc{N:Nat}{c:Int→Int}{l:List Edge}{e:Edge}(h:AcA N c l)(h1:In (N:Int) e.1)(h2:In (N:Int) e.2.1):AcA N (AeI c e.1 e.2.1) (l++[e]):=by
 intro a b ia ib
 rw[Con.snoc,← h a b ia ib,← h a _ ia h1,← h _ b h2 ib,← h a _ ia h2,← h _ b h1 ib]
 unfold AeI
 generalize c a=x
 generalize c b=y
 generalize c e.1=u
 generalize c e.2.1=v
 split<;>split<;>omega
end Go.Pev.Pl
end
section
namespace Go.Pev.Pl
def sh(n:Int):Prop:=0≤n∧n≤65535
instance (n:Int):Decidable (sh n):=inferInstanceAs (Decidable (_∧_))
def tw(n:Int):List Int:=[n/256,n % 256]
theorem AXb{α β:Type}(g:β→α):∀ (xs:List β) (a:List α),xs.foldl (fun a x=>a++[g x]) a=a++xs.map g:=by
 intro xs
 induction xs with
 |nil=>intro a;simp
 |cons x xs ih=>intro a;rw[Agg,ih];simp
end Go.Pev.Pl
end
section
namespace Go.Pev.Pl
abbrev Res:=Int×Int×List Int×Unit
def val(r:Res):Prop:=(0≤r.1∧r.1≤255)∧sh r.2.1∧sh (r.2.2.1.length:Int)∧∀ x∈r.2.2.1,sh x
instance (r:Res):Decidable (val r):=inferInstanceAs (Decidable (_∧_∧_∧_))
def enc(r:Res):List Int:=r.1::(tw r.2.1++(tw (r.2.2.1.length:Int)++r.2.2.1.flatMap tw))
end Go.Pev.Pl
end
section
namespace Go.Pev.Pl
theorem Cc(a:Int):ieq a a=true:=by rw[Dr];simp
end Go.Pev.Pl
end
section
namespace Go.Pev.Pl
open Go.RowKit Tok
section
variable {n:Int} {rings:List (List Int)}
theorem ANB{l:List Edge}{out:List Int}(h:FC n rings l)(hc:Tv n l out){A:List Int}{u:Int}(hA:A∈rings)(iu:In n u)(hu:u∈A):hd A=cl out u:=by
 have gA:=h.fr.rg A hA
 have ih:=NW gA
 have hh:=S2 gA.2.1
 have h1:Con l u (hd A):=(h.sam u (hd A) iu ih).1 ⟨A,hA,hu,hh⟩
 have h2:=hc.least u (hd A) iu ih h1
 have h3:=hc.isin u iu
 obtain⟨K,hK,k1,k2⟩:=(h.sam u _ iu h3).2 (hc.con u iu)
 have:=h.fr.one hA hK iu.2.2.2 hu k1
 subst this
 have h4:=(Eb gA.2.1).2 _ k2
 rw[gA.2.2.1]at h4
 have:hd A=A.headD 0:=rfl
 omega
end
end Go.Pev.Pl
end
section
namespace Go.Pev.Pl
def HX(n:Nat):Int:=((@LM idI ((n:Int),())).getD (0,())).1
theorem Afa:((List.range 65).all fun k=>decide (@LM idI ((k:Int),())=some (HX k,())))=true:=by kernel_rfl
theorem AfJ:((List.range 65).all fun k=>decide (@ACu idI ((k:Int),())=some (HX k,())))=true:=by kernel_rfl
theorem ADb(n:Nat)(h:n≤64):LM ((n:Int),())=some (HX n,()):=by
 rw[show LM ((n:Int),()) = @LM idI ((n:Int),())from AhH (fun i=>@LM i ((n:Int),())) AAB]
 exact Ahd (Af9.1 Afa n (by simp;omega))
theorem Zz(n:Nat)(h:n≤64):ACu ((n:Int),())=some (HX n,()):=by
 rw[show ACu ((n:Int),()) = @ACu idI ((n:Int),())from AhH (fun i=>@ACu i ((n:Int),())) AAB]
 exact Ahd (Af9.1 AfJ n (by simp;omega))
def O4(a b:Int):Int:=if a<b then -1 else if b<a then 1 else 0
theorem Kb(a b:Int):E7 (a,b,())=some (O4 a b,()):=by
 rw[MN,IH]
 simp only[W7,SV,Cc,Aft]
 unfold O4
 rw[Al,Al]
 by_cases h:a<b
 ·rw[Afk h,Af0 h]
 ·rw[Afj h,Afv h]
  by_cases h':b<a
  ·rw[Afk h',Af0 h']
  ·rw[Afj h',Afv h']
theorem AG8(a b:Int):orI ([a,b],())=some (if a=0 then b else a,()):=by
 rw[AaU,ATn]
 have e:=Ip (step:=OQ) (fun i=>(0,[a,b],AO [a,b],(i:Int),())) [a,b] (fun x => !decide (x=0)) (fun i=>.inl ([a,b].getD i 0,())) (.inr (.inl (0,()))) (by simp)
  (fun i x hi hx=>by
   rw[OQ,AN,AI,Afk hi]
   simp only[Ag hx,Ao]
   have hi2:i<2:=hi
   rw[AH (by omega)]
   have hg:[a,b].getD i 0=x:=by rw[Afm,hx];rfl
   rw[hg]
   by_cases h:x=0
   ·simp[h]
   ·simp[h])
  (by rw[OQ,AN,AI,Afj (by omega)])
 have e':AR OQ many (0,[a,b],AO [a,b],(0:Int),())=_:=e
 rw[e']
 by_cases h:a=0
 ·by_cases h':b=0
  ·simp[h,h']
  ·simp[h,h',AiD]
 ·simp[h,AiD]
theorem AHm(p x:Tie):∃ y,DP (p,x,())=some (y,())∧ile 0 y = !decide (ahead p x):=by
 rw[Lz,Hq]
 simp only[Kb,AG8]
 refine⟨_,rfl,?_⟩
 rw[Ap]
 by_cases h:ahead p x
 ·rw[Afk h]
  unfold ahead at h
  unfold O4
  rw[Afj];· rfl
  split<;>split<;>(try split)<;>omega
 ·rw[Afj h]
  unfold ahead at h
  unfold O4
  rw[Afk];· rfl
  split<;>split<;>(try split)<;>omega
def LF(N:Nat)(ts:List Tie)(i:Nat):Prop:=
 0≤(ts.getD i zT).1∧(ts.getD i zT).1<(ts.getD i zT).2.1∧(ts.getD i zT).2.1<(N:Int)∧0≤(ts.getD i zT).2.2.1∧(ts.getD i zT).2.2.1≤HX N∧(i=0∨ahead (ts.getD (i-1) zT) (ts.getD i zT))
instance (N:Nat)(ts:List Tie)(i:Nat):Decidable (LF N ts i):=inferInstanceAs (Decidable (_∧_∧_∧_∧_∧_))
def trs(ts:List Tie)(k:Nat):List Edge:=(List.range k).foldl (fun a i=>if(ts.getD i zT).2.2.2.1=true then a++[ed (ts.getD i zT)]else a) []
theorem AJg{α β ρ:Type}(P:β→Prop)[DecidablePred P](g:β→α→α)(fin:α→ρ)(rt:ρ):∀ (xs:List β) (a:α),walk (fun x a=>if P x then .inl (g x a)else .inr rt) fin xs a=if ∀ x∈xs,P x then fin (xs.foldl (fun a x=>g x a) a)else rt:=by
 intro xs
 induction xs with
 |nil=>intro a;simp[walk]
 |cons x xs ih=>
  intro a
  rw[walk]
  by_cases h:P x
  ·rw[Af0 h]
   simp only[]
   rw[ih]
   simp[h]
  ·rw[Afv h]
   simp[h]
theorem Xg(ts:List Tie)(k:Nat):trs ts (k+1)=if(ts.getD k zT).2.2.2.1=true then trs ts k++[ed (ts.getD k zT)]else trs ts k:=by
 unfold trs
 rw[Agz,List.foldl_append]
 rfl
theorem AFP(ts:List Tie):∀ k,(trs ts k).length≤k:=by
 intro k
 induction k with
 |zero=>exact Afw _
 |succ k ih=>
  rw[Xg]
  split
  ·rw[Afs];simp;omega
  ·omega
theorem AcK(ts:List Tie)(e:Edge):∀ k,e∈trs ts k→∃ i,i<k∧e=ed (ts.getD i zT):=by
 intro k
 induction k with
 |zero=>intro h;simp[trs]at h
 |succ k ih=>
  intro h
  rw[Xg]at h
  split at h
  ·rcases Afo.1 h with h|h
   ·obtain⟨i,h1,h2⟩:=ih h;exact⟨i,by omega,h2⟩
   ·simp only[AgF]at h;exact⟨k,by omega,h⟩
  ·obtain⟨i,h1,h2⟩:=ih h;exact⟨i,by omega,h2⟩
def oks(N:Nat)(ts:List Tie):Prop:=∀ i∈List.range ts.length,LF N ts i
instance (N:Nat)(ts:List Tie):Decidable (oks N ts):=inferInstanceAs (Decidable (∀ i∈List.range ts.length,LF N ts i))
theorem AMe(N:Nat)(hN:N≤64)(ts:List Tie)(hs:ts.length≤400):
  AR Dc many ((N:Int),ts,HX N,ts,AO ts,(0:Int),())=some (if oks N ts then .inr (.inl ((N:Int),ts,()))else .inl (false,())):=by
 have e:=Ch (step:=Dc) (fun i (_:Unit)=>((N:Int),ts,HX N,ts,AO ts,(i:Int),())) (List.range ts.length) (fun i a=>if LF N ts i then .inl a else .inr (.inl (false,()))) (fun _=>.inr (.inl ((N:Int),ts,()))) (fun _ _=>True) (by simp;omega)
  (fun i x a hi hx _=>by
   have:=ED hx
   subst this
   rw[AgQ]at hi
   have step:Dc ((N:Int),ts,HX N,ts,AO ts,(x:Int),())=if LF N ts x then some (.inl ((N:Int),ts,HX N,ts,AO ts,((x+1:Nat):Int),()))else some (.inr (.inl (false,()))):=by
    rw[Dc,AN,AI,Afk hi]
    simp only[Ck zT hi]
    obtain⟨t,ht⟩:∃ t,ts.getD x zT=t:=⟨_,rfl⟩
    have hk:LF N ts x↔(0≤t.1∧t.1<t.2.1∧t.2.1<(N:Int)∧0≤t.2.2.1∧t.2.2.1≤HX N∧(x=0∨ahead (ts.getD (x-1) zT) t)):=by unfold LF;rw[ht]
    rw[ht]
    rw[Al,Ap,Ap,Al,Al]
    by_cases h1:t.1<0
    ·rw[Afk h1,Afv (fun h=>by obtain⟨q1,q2,q3,q4,q5,_⟩:=hk.1 h;omega)]
    rw[Afj h1]
    by_cases h2:t.2.1≤t.1
    ·rw[Afk h2,Afv (fun h=>by obtain⟨q1,q2,q3,q4,q5,_⟩:=hk.1 h;omega)]
    rw[Afj h2]
    by_cases h3:(N:Int)≤t.2.1
    ·rw[Afk h3,Afv (fun h=>by obtain⟨q1,q2,q3,q4,q5,_⟩:=hk.1 h;omega)]
    rw[Afj h3]
    by_cases h4:t.2.2.1<0
    ·rw[Afk h4,Afv (fun h=>by obtain⟨q1,q2,q3,q4,q5,_⟩:=hk.1 h;omega)]
    rw[Afj h4]
    by_cases h5:HX N<t.2.2.1
    ·rw[Afk h5,Afv (fun h=>by obtain⟨q1,q2,q3,q4,q5,_⟩:=hk.1 h;omega)]
    rw[Afj h5]
    simp only[]
    rw[AH (by omega),Al]
    by_cases h6:x=0
    ·subst h6
     rw[Afj (by omega),Af0 (hk.2 ⟨by omega,by omega,by omega,by omega,by omega,.inl rfl⟩)]
    ·rw[Afk (by omega),Aj (by omega),show((x:Int)-1)=((x-1:Nat):Int) by omega]
     simp only[Ck zT (show x-1<ts.length by omega)]
     obtain⟨y,ey,hy⟩:=AHm (ts.getD (x-1) zT) t
     have ey':DP (((ts.getD (x-1) zT).1,((ts.getD (x-1) zT).2.1,((ts.getD (x-1) zT).2.2.1,((ts.getD (x-1) zT).2.2.2.1,())))),(t.1,(t.2.1,(t.2.2.1,(t.2.2.2.1,())))),())=some (y,()):=ey
     simp only[ey',hy]
     by_cases h7:ahead (ts.getD (x-1) zT) t
     ·rw[Afk h7,Af0 (hk.2 ⟨by omega,by omega,by omega,by omega,by omega,.inr h7⟩)]
      rfl
     ·rw[Afj h7,Afv (fun h=>by rcases(hk.1 h).2.2.2.2.2 with h|h;exact h6 h;exact h7 h)]
      rfl
   by_cases h:LF N ts x
   ·rw[Af0 h]at step ⊢
    refine⟨fun m' h' => ?_,fun r h'=>(by cases h')⟩
    cases h'
    exact⟨step,trivial⟩
   ·rw[Afv h]at step ⊢
    refine⟨fun m' h'=>(by cases h'),fun r h' => ?_⟩
    cases h'
    exact step)
  (fun a _=>by rw[Dc,AgQ,AN,AI,Afj (by omega)]) () trivial
 have e':AR Dc many ((N:Int),ts,HX N,ts,AO ts,(0:Int),())=_:=e
 rw[e',AJg (LF N ts) (fun _ a=>a)]
 rfl
theorem PX(N:Nat)(hN:N≤64)(ts:List Tie)(hs:ts.length≤400):
  AR Co many ((N:Int),ts,[],(0:Int),())=some (if oks N ts then .inr (.inl ((N:Int),ts,trs ts ts.length,()))else .inl (false,())):=by
 have e:=Ch (step:=Co) (fun i (a:List Edge)=>((N:Int),ts,a,(i:Int),())) (List.range ts.length) (fun i a=>if LF N ts i then .inl (if(ts.getD i zT).2.2.2.1=true then a++[ed (ts.getD i zT)]else a)else .inr (.inl (false,()))) (fun a=>.inr (.inl ((N:Int),ts,a,()))) (fun i a=>a.length≤i) (by simp;omega)
  (fun i x a hi hx ha=>by
   have:=ED hx
   subst this
   rw[AgQ]at hi
   have step:Co ((N:Int),ts,a,(x:Int),())=if LF N ts x then some (.inl ((N:Int),ts,if(ts.getD x zT).2.2.2.1=true then a++[ed (ts.getD x zT)]else a,((x+1:Nat):Int),()))else some (.inr (.inl (false,()))):=by
    rw[Co,AN,AI,Afk hi]
    simp only[Ck zT hi,ADb N hN]
    obtain⟨t,ht⟩:∃ t,ts.getD x zT=t:=⟨_,rfl⟩
    have hk:LF N ts x↔(0≤t.1∧t.1<t.2.1∧t.2.1<(N:Int)∧0≤t.2.2.1∧t.2.2.1≤HX N∧(x=0∨ahead (ts.getD (x-1) zT) t)):=by unfold LF;rw[ht]
    rw[ht]
    rw[Al,Ap,Ap,Al,Al]
    by_cases h1:t.1<0
    ·rw[Afk h1,Afv (fun h=>by obtain⟨q1,q2,q3,q4,q5,_⟩:=hk.1 h;omega)]
    rw[Afj h1]
    by_cases h2:t.2.1≤t.1
    ·rw[Afk h2,Afv (fun h=>by obtain⟨q1,q2,q3,q4,q5,_⟩:=hk.1 h;omega)]
    rw[Afj h2]
    by_cases h3:(N:Int)≤t.2.1
    ·rw[Afk h3,Afv (fun h=>by obtain⟨q1,q2,q3,q4,q5,_⟩:=hk.1 h;omega)]
    rw[Afj h3]
    by_cases h4:t.2.2.1<0
    ·rw[Afk h4,Afv (fun h=>by obtain⟨q1,q2,q3,q4,q5,_⟩:=hk.1 h;omega)]
    rw[Afj h4]
    by_cases h5:HX N<t.2.2.1
    ·rw[Afk h5,Afv (fun h=>by obtain⟨q1,q2,q3,q4,q5,_⟩:=hk.1 h;omega)]
    rw[Afj h5]
    simp only[AN]
    have hfit:fits ((a.length:Int)+(([(t.1,t.2.1,())]:List Edge).length:Int))=true:=BI (by simp;omega)
    rw[AH (by omega),Al]
    by_cases h6:x=0
    ·subst h6
     rw[Afj (by omega),Af0 (hk.2 ⟨by omega,by omega,by omega,by omega,by omega,.inl rfl⟩)]
     cases ht4:t.2.2.2.1
     ·simp
     ·simp only[hfit]
      simp[ed,A6]
    ·rw[Afk (by omega),Aj (by omega),show((x:Int)-1)=((x-1:Nat):Int) by omega]
     simp only[Ck zT (show x-1<ts.length by omega),Ao]
     generalize ts.getD (x-1) zT=p at hk ⊢
     rw[Al,Ap]
     by_cases h7:t.1<p.1
     ·rw[Afk h7,Afv (fun h=>by rcases(hk.1 h).2.2.2.2.2 with h|h|h<;>omega)]
     rw[Afj h7]
     by_cases h8:p.1=t.1
     ·rw[Afk h8]
      by_cases h9:t.2.1≤p.2.1
      ·rw[Afk h9,Afv (fun h=>by rcases(hk.1 h).2.2.2.2.2 with h|h|h<;>omega)]
      rw[Afj h9,Af0 (hk.2 ⟨by omega,by omega,by omega,by omega,by omega,.inr (.inr ⟨h8,by omega⟩)⟩)]
      cases ht4:t.2.2.2.1
      ·simp
      ·simp only[hfit]
       simp[ed,A6]
     ·rw[Afj h8,Af0 (hk.2 ⟨by omega,by omega,by omega,by omega,by omega,.inr (.inl (by omega))⟩)]
      cases ht4:t.2.2.2.1
      ·simp
      ·simp only[hfit]
       simp[ed,A6]
   by_cases h:LF N ts x
   ·rw[Af0 h]at step ⊢
    refine⟨fun m' h' => ?_,fun r h'=>(by cases h')⟩
    cases h'
    refine⟨step,?_⟩
    split
    ·rw[Afs];simp;omega
    ·omega
   ·rw[Afv h]at step ⊢
    refine⟨fun m' h'=>(by cases h'),fun r h' => ?_⟩
    cases h'
    exact step)
  (fun a _=>by rw[Co,AgQ,AN,AI,Afj (by omega)]) [] (Afw _)
 have e':AR Co many ((N:Int),ts,[],(0:Int),())=_:=e
 rw[e',AJg (LF N ts) (fun i a=>if(ts.getD i zT).2.2.2.1=true then a++[ed (ts.getD i zT)]else a)]
 rfl
end Go.Pev.Pl
end
end
