/- A part of the proofs of this seat: VDKA T18d PevClaim VDKB VDKC T19a VDKD T22a T21a T23a T23b T24a PlnC VDKE VDKF VDKG VDKH VDU24a VDU24b VDU24c VDU24d VDU23a VDU23b VDU23c VDU23d VDU23e T24b VDU24f VDU24g VDU24h VDU24i VDU24j VDU24k VDU24l VDU24m VDU24n PlnD VDU21a VDU21b VDU23f VDU23g PlnE VDU23h VDU23i VDU21c VDU21d VDU21e VDU23j VDU23k VDU24e VDU21f VDU23l VU29a VU29b VU29c VU29d VU29e VU29g VU29h VU29i VU29j VU29k TS27a. -/
import Derived.Test.YtbnaceonlbiheaaGreatDoorPe2a3268309
import Derived.ProofKit
import Derived.ChangeArms
import Derived.ReadAgain
import Derived.Deep.Slices
import Derived.OpenShut
import Derived.KernelRfl
import Derived.IntWalk
set_option linter.unusedVariables false
set_option linter.unusedSimpArgs false
set_option linter.unusedSectionVars false
set_option maxRecDepth 100000
section
section
namespace Go.Pev.Pl
open Tok
def In(n v:Int):Prop:=1≤n∧n≤64∧0≤v∧v<n
instance (n v:Int):Decidable (In n v):=inferInstanceAs (Decidable (_∧_))
def Sz(n:Int):Prop:=1≤n∧n≤64
instance (n:Int):Decidable (Sz n):=inferInstanceAs (Decidable (_∧_))
theorem Kf(n:Int):OH (n,())=some (decide (Sz n),()):=by rw[cP,Wh];simp only[BZ];by_cases h1:1≤n<;>by_cases h2:n≤64<;>simp[Sz,h1,h2]
theorem il(n v:Int):tin (n,v,())=some (decide (In n v),()):=by rw[AL5,AL6];simp only[Kf,BZ,BM];by_cases h1:1≤n<;>by_cases h2:n≤64<;>by_cases h3:0≤v<;>simp[In,Sz,h1,h2,h3]
def AXM(n v:Int):Int:=if In n v then v else -1
def En(n u v:Int):Int:=if In n u∧In n v∧u≠v then n*(u+1)+v else -1
theorem GJ{n u:Int}(h1:1≤n)(h2:n≤64)(h3:0≤u)(h4:u≤64):0≤n*u∧n*u≤4096:=by refine⟨Int.mul_nonneg (by omega) h3,?_⟩;have:=Int.mul_le_mul h2 h4 h3 (by omega);omega
theorem oT(n u v:Int):AMB (n,u,v,())=some (En n u v,()):=by rw[AC2,xY];simp only[il,En,Be];by_cases h3:u=v;simp[h3];by_cases h1:In n u;by_cases h2:In n v;obtain⟨a1,a2,a3,a4⟩:=h1;obtain⟨b1,b2,b3,b4⟩:=h2;have hb:=GJ (u:=u+1) a1 a2 (by omega) (by omega);rw[BR (n:=u+1) (by omega),BR (n:=n*(u+1)) (by omega),BR (n:=n*(u+1)+v) (by omega)];simp[In,a1,a2,a3,a4,b3,b4,h3];simp[h1,h2,h3];simp[h1,h3]
def Cu(n t:Int):Option Tok:=
 if In n t then some (.ver t)
 else if Sz n∧n≤t∧t<n*(n+1)∧t/n-1≠t % n then some (.arc (t/n-1) (t % n))
 else none
def Nn:Option Tok→Int×Int×Bool×Bool×Unit
 |some (.ver v)=>(v,0,false,true,())
 |some (.arc u v)=>(u,v,true,true,())
 |none=>(0,0,false,false,())
def EP(n:Int):Tok→Int
 |.ver v=>v
 |.arc u v=>n*(u+1)+v
def okT(n:Int):Tok→Prop
 |.ver v=>In n v
 |.arc u v=>In n u∧In n v∧u≠v
theorem WJ{n u v:Int}(h1:In n u)(h2:In n v):n≤n*(u+1)+v∧n*(u+1)+v<n*(n+1)∧(n*(u+1)+v)/n=u+1∧(n*(u+1)+v) % n=v:=by
 obtain⟨a1,a2,a3,a4⟩:=h1;obtain⟨b1,b2,b3,b4⟩:=h2;have e2:n*(u+1)=n*u+n:=by rw[AaK,AaL]
 have e3:n*(n+1)=n*n+n:=by rw[AaK,AaL]
 have hb:=GJ (u:=u) a1 a2 (by omega) (by omega);have hle:n*(u+1)≤n*n:=Int.mul_le_mul_of_nonneg_left (by omega) (by omega);have hd:(n*(u+1)+v)/n=u+1:=by rw[Int.add_comm,Int.add_mul_ediv_left _ _ (by omega),Int.ediv_eq_zero_of_lt b3 b4];omega
 have hm:(n*(u+1)+v) % n=v:=by rw[Int.add_comm,Int.add_mul_emod_self_left,Int.emod_eq_of_lt b3 b4]
 exact⟨by omega,by omega,hd,hm⟩
theorem k6{n t:Int}(hn:Sz n)(h1:n≤t)(h2:t<n*(n+1)):In n (t/n-1)∧In n (t % n)∧n*(t/n-1+1)+t % n=t:=by obtain⟨a1,a2⟩:=hn;have g1:1≤t/n:=(Int.le_ediv_iff_mul_le (by omega)).2 (by omega);have g2:t/n<n+1:=(Int.ediv_lt_iff_lt_mul (by omega)).2 (by rw[Int.mul_comm];exact h2);have g3:=Int.emod_nonneg t (show n≠0 by omega);have g4:=Int.emod_lt_of_pos t (show 0<n by omega);have g5:=Int.mul_ediv_add_emod t n;refine⟨⟨a1,a2,by omega,by omega⟩,⟨a1,a2,g3,g4⟩,?_⟩;rw[Int.sub_add_cancel];exact g5
theorem EY{n:Int}{t:Tok}(h:okT n t):Cu n (EP n t)=some t:=by
 cases t with
  |ver v=>simp only[okT]at h;simp[Cu,EP,h]
  |arc u v=>
   obtain⟨h1,h2,h3⟩:=h;obtain⟨g1,g2,g3,g4⟩:=WJ h1 h2;have hni:¬ In n (n*(u+1)+v):=fun h=>by have:=h.2.2.2;omega
   have:u+1-1=u:=by omega
   simp only[Cu,EP,hni,AXv,g3,g4,this];rw[AXp ⟨⟨h1.1,h1.2.1⟩,g1,g2,h3⟩]
theorem Sh{n x:Int}{t:Tok}(h:Cu n x=some t):okT n t∧EP n t=x:=by rw[Cu]at h;split at h;cases h;exact⟨by assumption,rfl⟩;split at h;rename_i hh;cases h;obtain⟨d1,d2,d3⟩:=k6 hh.1 hh.2.1 hh.2.2.1;exact⟨⟨d1,d2,hh.2.2.2⟩,d3⟩;cases h
theorem Fl{n u v:Int}(h:okT n (.arc u v)):En n u v=EP n (.arc u v):=by simp only[okT]at h;rw[En,AXp h];rfl
theorem Gi{n:Int}{a b:Tok}(ha:okT n a)(hb:okT n b)(h:EP n a=EP n b):a=b:=by have:=EY ha;rw[h,EY hb]at this;exact(AZP this).symm
theorem xG(n t:Int)(ht:-9223372036854775808≤t∧t≤9223372036854775807):iT (n,t,())=some (Nn (Cu n t)):=by
 rw[cO,Wg];simp only[Kf];by_cases hs:Sz n;obtain⟨a1,a2⟩:=hs;have hb:=GJ (u:=n) a1 a2 (by omega) (by omega);have e3:n*(n+1)=n*n+n:=by rw[AaK,AaL]
 rw[BR (n:=n+1) (by omega),BR (n:=n*(n+1)) (by omega)];simp only[Sz,a1,a2,and_self,AXi,AXh,BM,BZ];by_cases h1:t<0;have hni:¬ In n t:=fun h=>by have:=h.2.2.1;omega
 have h2:¬ n≤t:=by omega
 simp only[h1,AXi,Cu,hni,AXv,h2,AZH,and_false,Nn];simp only[h1,AXu];by_cases h2:n*(n+1)≤t;have hni:¬ In n t:=fun h=>by have:=h.2.2.2;omega
 have h3:¬ t<n*(n+1):=by omega
 simp only[h2,AXi,Cu,hni,AXv,h3,AZH,and_false,Nn];simp only[h2,AXu];by_cases h3:t<n;have hi:In n t:=⟨a1,a2,by omega,h3⟩
 simp only[h3,AXi,Cu,hi,AX9,Nn];have hni:¬ In n t:=fun h=>h3 h.2.2.2;have hq:t.tdiv n=t/n:=AYq (by omega);have hm:t.tmod n=t % n:=AZz (by omega);obtain⟨d1,d2,d3⟩:=k6 (t:=t) ⟨a1,a2⟩ (by omega) (by omega);have q1:=d1.2.2.1;have q2:=d1.2.2.2;simp only[h3,AXu,OQ,jZ,XR,yU];rw[AXo (by omega),AXo (by omega),hq,hm,b9 (n:=t/n) (by omega)];simp only[];rw[BR (n:=t/n-1) (by omega),Be,Cu,AXo hni];by_cases h4:t/n-1=t % n;rw[AXo (by intro h;exact h.2.2.2 h4),AXb h4];rfl;rw[AXp ⟨⟨a1,a2⟩,by omega,by omega,h4⟩,AXZ h4];rfl;have hni:¬ In n t:=fun h=>hs ⟨h.1,h.2.1⟩;simp only[hs,AXu,AYL,Cu,hni,AXv,AZH,Nn]
theorem Oq(xs ys:List Int)(hs:xs.length<9223372036854775808):Ot (xs,ys,())=some (decide (xs=ys),()):=by
 rw[eY,YD,YW];by_cases hl:xs.length=ys.length;rw[AXb hl];simp only[AXh];rcases ow (step:=Hx) (fun i=>(xs,ys,((i:Nat):Int),())) xs.length (fun i => !decide (xs.getD i 0=ys.getD i 0)) (fun _=>.inl (false,())) (.inr (.inl ())) hs (fun i hi=>by rw[Hx,A8,A_,AXb hi];simp (disch:=omega) only[Es (0:Int),A',Be];by_cases h:xs.getD i 0=ys.getD i 0;rw[AXb h];simp;rw[AXZ h];simp) (by rw[Hx,A8,A_,AXZ (by omega)])with⟨k,hk,hP,_,e⟩|⟨h,e⟩
 have e':A9 Hx many (xs,ys,(0:Int),())=_:=e;rw[e'];have:xs≠ys:=Tc (0:Int) (j:=k) (by simpa using hP);simp[this];have e':A9 Hx many (xs,ys,(0:Int),())=_:=e;rw[e'];have:xs=ys:=Hc (0:Int) hl fun j hj=>by simpa using h j hj
 simp[this];rw[AXZ hl];have:xs≠ys:=fun e=>hl (by rw[e]);simp[this]
def CF(n:Nat):List (List Int):=(List.range n).map fun(v:Nat)=>[(v:Int)]
theorem Pd(n:Nat):CF (n+1)=CF n++[[(n:Int)]]:=by simp[CF,AYZ]
theorem TE(n:Nat):(CF n).length=n:=by simp[CF]
theorem xM(N:Nat)(hN:N≤64)(c:Int):∀ (k i n:Nat),i+k=N→k<n→BE Lu n (c,(N:Int),CF i,(N:Int),(i:Int),())=some (.inl (c,(N:Int),CF N,())):=by
 intro k;induction k with
  |zero=>
   intro i n hi hn;obtain⟨n,rfl⟩:∃ k,n=k+1:=⟨n-1,by omega⟩
   have:i=N:=by omega
   subst this;rw[BE,Lu,A_,AXZ (by omega)]
  |succ k ih=>
   intro i n hi hn;obtain⟨n,rfl⟩:∃ k,n=k+1:=⟨n-1,by omega⟩
   rw[BE,Lu,A_,AXb (by omega)];simp only[A8,TE,AXg,AXs];rw[Bt (by omega),A' (by omega)];simp only[Dt,← Pd];exact ih (i+1) n (by omega) (by omega)
def HZ(n:Int):Int×List (List Int)×Int×Unit:=if Sz n then(n,CF n.toNat,0,())else(0,[],1,())
theorem cV(n:Int):AC0 (n,())=some (HZ n):=by
 have hm:4294967296<many:=by simp only[many];omega
 rw[oK,ic,HZ];simp only[Kf];by_cases h:Sz n;obtain⟨h1,h2⟩:=h;obtain⟨N,rfl⟩:=AXr (show 0≤n by omega);have hS:Sz (N:Int):=⟨by omega,by omega⟩
 have e:=xM N (by omega) 0 N 0 many (by omega) (by omega);have e':BE Lu many (0,(N:Int),[],(N:Int),(0:Int),())=_:=e;simp[hS,Bf,e'];simp[h]
end Go.Pev.Pl
end
section
namespace Go.Pev.Pl
theorem Ov(xs:List Int)(t:Int)(hs:xs.length<9223372036854775808):SU (xs,t,())=some (pos xs t,()):=by
 rw[ea,YU]
 have e:=N3 (step:=KB) (fun i=>(xs,t,A4 xs,(i:Int),())) xs (fun x=>decide (x=t)) (fun i=>.inl ((i:Int),())) (.inr (.inl ())) hs
  (fun i x hi hx=>by
   rw[KB,A8,A_,AXb hi]
   simp only[BK hx,Be]
   by_cases h:x=t
   ·simp[h]
   ·simp only[h,AYm h,AXu];rw[A' (by omega)];simp)
  (by rw[KB,A8,A_,AXZ (by omega)])
 have e':A9 KB many (xs,t,A4 xs,(0:Int),())=_:=e;rw[e',AFa,pos];by_cases h:t∈xs<;>simp[h]
theorem Jo(xs:List Int)(t:Int)(hs:xs.length<9223372036854775808):GU (xs,t,())=some (decide (t∈xs),()):=by rw[Q2,Mn];simp only[Ov xs t hs,BZ];by_cases h:t∈xs;obtain⟨k,e,_⟩:=jc h;rw[e];simp[h];rw[Pr h];simp[h]
def Rt(xs:List Int):Prop:=xs.length≤1000∧(∀ x∈xs,0≤x∧x≤10000)∧xs.Nodup
instance (xs:List Int):Decidable (Rt xs):=inferInstanceAs (Decidable (_∧_∧_))
theorem Pz(xs:List Int):xs.Nodup↔∀ i,i<xs.length→xs.getD i 0∉xs.take i:=by rw[List.Nodup,AZZ];constructor;intro h i hi hm;obtain⟨j,hj,e⟩:=AZY.1 hm;have:=h j i (by omega) hi (by omega);rw[AXe,AXj hi,AX5]at e;exact this e;intro h i j hi hj hij e;apply h j hj;rw[AXe,AXj hj,AX5,← e];exact AZY.2 ⟨i,by omega,rfl⟩
theorem tM(xs:List Int)(hs:xs.length<9223372036854775808):Gj (xs,())=some (xs.any (fun x=>decide (x<0)||decide (10000<x)),()):=by
 rw[KL,HM,LW,Ii]
 have e:=N3 (step:=D1) (fun i=>(xs,A4 xs,(i:Int),())) xs (fun x=>decide (x<0)||decide (10000<x)) (fun i=>.inl ((i:Int),())) (.inr (.inl ())) hs
  (fun i x hi hx=>by
   rw[D1,A8,A_,AXb hi]
   simp only[BK hx,BM]
   rw[A' (by omega)]
   by_cases h:x<0
   ·simp[h]
   ·by_cases h2:10000<x
    ·simp[h,h2]
    ·simp[h,h2])
  (by rw[D1,A8,A_,AXZ (by omega)])
 have e':A9 D1 many (xs,A4 xs,(0:Int),())=_:=e;rw[e'];generalize (xs.any fun x=>decide (x<0)||decide (10000<x))=b;cases b<;>simp[BZ]
theorem AOW(xs:List Int)(hs:xs.length<9223372036854775808):once (xs,())=some (decide xs.Nodup,()):=by
 rw[AEE,zo]
 have e:=Ct (step:=Pw) (fun i m=>(xs,m,xs,A4 xs,(i:Int),())) xs (fun x m=>.inl (BP m x (w64 (((BA m x).getD (0:Int))+(1:Int))))) (fun m=>.inl (xs,m,())) (fun _ _=>True) hs
  (fun i x m hi hx _=>by
   refine⟨fun m' h' => ?_,fun r h'=>by cases h'⟩
   cases h'
   rw[Pw,A8,A_,AXb hi]
   simp only[BK hx]
   rw[A' (by omega)]
   exact⟨rfl,trivial⟩)
  (fun m _=>by rw[Pw,A8,A_,AXZ (by omega)]) [] trivial
 have e':A9 Pw many (xs,([]:List (Int×Int)),xs,A4 xs,(0:Int),())=_:=e;rw[e',B0];have key:∀ (l:List Int) (m:List (Int×Int)),B2 (l.foldl (fun m x=>BP m x (w64 (((BA m x).getD (0:Int))+(1:Int)))) m)=dd (B2 m) l:=by
  intro l;induction l with
   |nil=>intro m;rfl
   |cons x l ih=>intro m;rw[AYI,ih,Oh,dd]
 have hk:=key xs [];generalize xs.foldl (fun m x=>BP m x (w64 (((BA m x).getD (0:Int))+(1:Int)))) []=m at *;simp only[YW];have:m.length=(dd [] xs).length:=by rw[← SH,hk];rfl
 rw[this];simp only[AQK]
theorem Km(xs:List Int):L4 (xs,())=some (decide (Rt xs),()):=by
 rw[dH,XK,A8,BM];by_cases hl:xs.length≤1000;rw[AXZ (by omega)];simp only[tM xs (by omega),AOW xs (by omega)];have hany:(xs.any fun x=>decide (x<0)||decide (10000<x)) = !decide (∀ x∈xs,0≤x∧x≤10000):=by rw[AZ5];simp only[AZf,AYe,AXc,AYj,AYM];constructor;rintro⟨x,hx,h⟩ hh;have:=hh x hx;omega;intro h;refine AYV fun hc=>h fun x hx => ?_;refine AYV fun hn=>hc ⟨x,hx,by omega⟩
 rw[hany];by_cases h1:∀ x∈xs,0≤x∧x≤10000;rw[AXb h1];by_cases h2:xs.Nodup;rw[AXb h2,AXb (show Rt xs from⟨hl,h1,h2⟩)];rfl;rw[AXZ h2,AXZ (show ¬ Rt xs from fun h=>h2 h.2.2)];rfl;rw[AXZ h1,AXZ (show ¬ Rt xs from fun h=>h1 h.2.1)];rfl;rw[AXb (by omega),AXZ (show ¬ Rt xs from fun h=>hl h.1)]
def rot(xs:List Int)(k:Nat):List Int:=xs.drop k++xs.take k
theorem AJe(n:Nat)(hn:n<4294967296):sF ((n:Int),())=some ([],()):=by
 have e0:w64 ((n:Int)-w64 ((0:Int)-0))=(n:Int):=by rw[BR (n:=(0:Int)-0) (by omega),BR (by omega)];omega
 rw[Yf,WH];simp only[e0,BM];rw[AXZ (by omega)];simp only[];by_cases h:0<n;rw[AXb (by omega)];have s1:Cv ([]:List Unit) (0:Int) (0:Int)=some []:=by rw[NN];rfl
 have s2:Cv (DD (A3 (n:Int)) (0:Int)) (0:Int) (0:Int)=some []:=by rw[NN,cn,AXp (by omega)];simp
 have s3:CZ (n:Int)=true:=(Hz _).2 (by omega);simp only[s1,s2,s3];rfl;rw[AXZ (by omega)]
theorem JS{α:Type}{xss:List (List α)}{i:Nat}{x:List α}(h:xss[i]? = some x):(xss.take (i+1)).flatten=(xss.take i).flatten++x:=by rw[List.take_add_one,h];simp
theorem LY{α:Type}(xss:List (List α))(i:Nat):(xss.take i).flatten.length≤xss.flatten.length:=by
 conv=>rhs;rw[← AYK i xss,AZ2,AXn]
 omega
theorem Ms(xss:List (List Int))(hs:xss.length<4294967296)(h:xss.flatten.length<4294967296):He (xss,())=some (xss.flatten,()):=by
 rw[PA,Nf]
 have e:=Ct (step:=Dv) (fun i (a:Nat)=>(xss,(a:Int),xss,A4 xss,(i:Int),())) xss (fun x a=>.inl (a+x.length)) (fun a=>.inl (xss,(a:Int),())) (fun i a=>a=(xss.take i).flatten.length) (by omega)
  (fun i x a hi hx ha=>by
   refine⟨fun m' h' => ?_,fun r h'=>by cases h'⟩
   cases h'
   have h1:=JS hx
   have h2:=LY xss (i+1)
   rw[h1,AXn]at h2
   rw[Dv]
   simp only[A8]
   rw[A_,AXb hi]
   simp only[BK hx]
   rw[wrap_add (by omega),A' (by omega),BM,AXZ (by omega)]
   exact⟨rfl,by rw[h1,AXn,ha]⟩)
  (fun a _=>by rw[Dv,A8,A_,AXZ (by omega)]) 0 rfl
 have e':A9 Dv many (xss,(0:Int),xss,A4 xss,(0:Int),())=_:=e;rw[e',B0];have hsum:∀ (l:List (List Int)) (a:Nat),l.foldl (fun a x=>a+x.length) a=a+l.flatten.length:=by
  intro l;induction l with
   |nil=>intro a;rfl
   |cons x l ih=>intro a;rw[AYI,ih,AYi,AXn];omega
 rw[hsum,AYQ];simp only[AJe _ h]
 have g:=Ct (step:=Du) (fun i (a:List Int)=>(a,xss,A4 xss,(i:Int),())) xss (fun x a=>.inl (a++x)) (fun a=>.inl (a,())) (fun i a=>a=(xss.take i).flatten) (by omega)
  (fun i x a hi hx ha=>by
   refine⟨fun m' h' => ?_,fun r h'=>by cases h'⟩
   cases h'
   have h1:=JS hx
   have h2:=LY xss (i+1)
   rw[h1,AXn]at h2
   rw[Du]
   simp only[A8]
   rw[A_,AXb hi]
   simp only[BK hx]
   rw[A' (by omega),Bt (by rw[ha];omega)]
   exact⟨rfl,by rw[h1,ha]⟩)
  (fun a _=>by rw[Du,A8,A_,AXZ (by omega)]) [] rfl
 have g':A9 Du many ([],xss,A4 xss,(0:Int),())=_:=g;rw[g',B0];have hcat:∀ (l:List (List Int)) (a:List Int),l.foldl (fun a x=>a++x) a=a++l.flatten:=by
  intro l;induction l with
   |nil=>intro a;simp
   |cons x l ih=>intro a;rw[AYI,ih,AYi,AZF]
 rw[hcat];rfl
theorem Wd(xs:List Int)(k:Nat)(hk:k≤xs.length)(hs:xs.length<2147483648):Wf (xs,(k:Int),())=some (rot xs k,()):=by rw[cM,We];simp only[ID hk,OL hk];rw[Ms _ (by simp) (by simp;omega)];simp[rot]
def Bo(xs:List Int)(t:Int):List Int:=rot xs (xs.findIdx (fun x=>decide (x=t)))
def JR(xs:List Int)(t:Int):List Int×Bool×Unit:=if Rt xs∧t∈xs then(Bo xs t,true,())else([],false,())
theorem XM{xs:List Int}{t:Int}(h:t∈xs):∃ a b,xs=a++t::b∧t∉a∧Bo xs t=t::b++a:=by
 obtain⟨k,e,hk,hg,h1,h2⟩:=jc h;rw[pos,AXp h]at e;have e':xs.findIdx (fun x=>decide (x=t))=k:=by omega
 refine⟨_,_,h1,h2,?_⟩;rw[Bo,e',rot];congr 1;rw[AYH hk];congr 1;simpa [hk]using hg
theorem dQ(xs:List Int)(t:Int):pg (xs,t,())=some (JR xs t):=by
 rw[pf,jT,dY,XV,JR];simp only[Km];by_cases hr:Rt xs;have hl:=hr.1;simp only[hr,AXi,AXh,AZg];have e:A9 Hq many (xs,[],[t],A4 [t],(0:Int),())=some (.inl ([pos xs t],())):=by
  have g:=Ct (step:=Hq) (fun i (a:List Int)=>(xs,a,[t],A4 [t],(i:Int),())) [t] (fun x a=>.inl (a++[pos xs x])) (fun a=>.inl (a,())) (fun i a=>a.length=i) (by simp)
   (fun i x a hi hx ha=>by
    refine⟨fun m' h' => ?_,fun r h'=>by cases h'⟩
    cases h'
    rw[Hq,A8,A_,AXb hi]
    simp only[BK hx,Ov xs x (by omega)]
    simp only[AXg,AXs]at hi
    rw[A' (by omega),Bt (by simp only[A8,AXg,AXs];omega)]
    exact⟨rfl,by simp[ha]⟩)
   (fun a _=>by rw[Hq,A8,A_,AXZ (by omega)]) [] rfl
  have g':A9 Hq many (xs,[],[t],A4 [t],(0:Int),())=_:=g;rw[g'];rfl
 rw[e];simp only[Jo [pos xs t] (-1) (by simp)];by_cases h:t∈xs;have hk:xs.findIdx (fun x=>decide (x=t))<xs.length:=AZK.2 ⟨t,h,by simp⟩;rw[pos,AXp h,AXp h,Bo];generalize xs.findIdx (fun x=>decide (x=t))=k at *;rw[AXZ (by simp)];have i0:idx [(k:Int)] (0:Int)=some (k:Int):=by rw[G2];rfl
 have d0:A7 [(k:Int)] 0 (0:Int)=(k:Int):=rfl;simp only[AYL,AXh,i0,d0,Wd xs k (by omega) (by omega)];rw[Pr h,AXo h];simp;simp[hr]
def Gz:List Int→Int
 |[]=>0
 |x::xs=>xs.foldl (fun a y=>Cb a y) x
theorem AAY:∀ (xs:List Int) (a:Int),(xs.foldl (fun a y=>Cb a y) a)≤a∧(∀ x∈xs,xs.foldl (fun a y=>Cb a y) a≤x)∧(xs.foldl (fun a y=>Cb a y) a=a∨xs.foldl (fun a y=>Cb a y) a∈xs):=by
 intro xs;induction xs with
  |nil=>intro a;simp
  |cons x xs ih=>
   intro a;rw[AYI];obtain⟨h1,h2,h3⟩:=ih (Cb a x);have hm:Cb a x≤a∧Cb a x≤x∧(Cb a x=a∨Cb a x=x):=by rw[Cb];split<;>omega
   refine⟨by omega,fun y hy => ?_,?_⟩;rcases AXf.1 hy with rfl|hy;omega;exact h2 y hy;rcases h3 with h|h;rcases hm.2.2 with e|e;exact .inl (by rw[h,e]);exact .inr (by rw[h,e];simp);exact .inr (AXx _ h)
theorem FI{xs:List Int}(h:xs≠[]):Gz xs∈xs∧∀ x∈xs,Gz xs≤x:=by
 cases xs with
  |nil=>exact absurd rfl h
  |cons x xs=>obtain⟨h1,h2,h3⟩:=AAY xs x;refine⟨?_,fun y hy => ?_⟩;rcases h3 with h|h;rw[Gz,h];simp;exact AXx _ h;rcases AXf.1 hy with rfl|hy;exact h1;exact h2 y hy
theorem AS9{xs:List Int}{m:Int}(h1:m∈xs)(h2:∀ x∈xs,m≤x):Gz xs=m:=by obtain⟨g1,g2⟩:=FI (List.ne_nil_of_mem h1);have:=g2 m h1;have:=h2 _ g1;omega
theorem rJ(xs:List Int)(h:xs≠[])(hs:xs.length<9223372036854775808):AOc (xs,())=some (Gz xs,()):=by
 cases xs with
  |nil=>exact absurd rfl h
  |cons x xs=>
   rw[AEL,zu,A8,BM,AXZ (by simp only[AXg];omega)];have i0:idx (x::xs) (0:Int)=some x:=by rw[G2];rfl
   simp only[i0];simp only[AXg]at hs
   have e:=Ct (step:=P2) (fun i (a:Int)=>(x::xs,a,((i+1:Nat):Int),())) xs (fun y a=>.inl (Cb a y)) (fun a=>.inl (a,())) (fun _ _=>True) (by omega)
    (fun i y a hi hy _=>by
     refine⟨fun m' h' => ?_,fun r h'=>by cases h'⟩
     cases h'
     rw[P2,A8,A_,AXb (by simp only[AXg];omega)]
     simp only[BK (xs:=x::xs) (n:=i+1) (by simpa using hy)]
     rw[A' (by omega)]
     exact⟨rfl,trivial⟩)
    (fun a _=>by rw[P2,A8,A_,AXZ (by simp)]) x trivial
   have e':A9 P2 many (x::xs,x,(1:Int),())=_:=e;rw[e',B0];rfl
def plain(xs:List Int):List Int:=if Rt xs∧xs≠[]then Bo xs (Gz xs)else []
theorem yE(xs:List Int):jR (xs,())=some (plain xs,()):=by
 rw[dI,XL,plain];simp only[Km];by_cases hr:Rt xs;have hl:=hr.1;simp only[hr,AXi,AXh,AZg];by_cases h:xs=[]
 subst h;simp[A8,D_];have hp:0<xs.length:=List.length_pos_iff.2 h;rw[A8,Be,AXZ (by omega)];have hm:=(FI h).1;have hk:xs.findIdx (fun x=>decide (x=Gz xs))<xs.length:=AZK.2 ⟨_,hm,by simp⟩;simp only[rJ xs h (by omega),Ov xs _ (show xs.length<9223372036854775808 by omega)];rw[pos,AXp hm,AXp (by simpa using h),Bo];simp only[Wd xs _ (AYw hk) (by omega)];simp[hr]
theorem IK{xs:List Int}(hr:Rt xs)(h:xs≠[]):∃ a b,xs=a++Gz xs::b∧plain xs=Gz xs::b++a:=by obtain⟨a,b,h1,_,h2⟩:=XM (FI h).1;exact⟨a,b,h1,by rw[plain,AXp ⟨hr,h⟩,h2]⟩
end Go.Pev.Pl
end
section
namespace Go.Pev.Pl
open Tok
def TI(n:Int)(xs:List Int):Prop:=∃ L,xs=L.map (EP n)∧(∀ t∈L,okT n t)∧T L
noncomputable instance (n:Int) (xs:List Int):Decidable (TI n xs):=Classical.propDecidable _
abbrev ABs:=List Int×List (Int×Int)×List (Int×Int)
abbrev AU5:=(Bool×Unit)⊕(List Int×List (Int×Int)×List (Int×Int)×Unit)⊕Unit
def goF(n x:Int)(s:ABs):ABs⊕AU5:=
 match Cu n x with
 |none=>.inr (.inl (false,()))
 |some t=>match Tok.step (s.1,B2 s.2.1) t with
  |none=>.inr (.inl (false,()))
  |some s'=>match t with
   |.ver v=>.inl (s'.1,s.2.1,BP s.2.2 v (w64 (((BA s.2.2 v).getD (0:Int))+(1:Int))))
   |.arc _ v=>.inl (s'.1,if v∈B2 s.2.1 then s.2.1 else BP s.2.1 v 1,s.2.2)
def one(came:List (Int×Int)):Prop:=∀ k,(0<(BA came k).getD (0:Int))↔k∈B2 came
theorem AIl{came:List (Int×Int)}(h:one came)(v:Int):one (BP came v 1):=by intro k;rw[Ha,FU];by_cases e:k=v;simp[e];simp only[e,AXv,false_or];exact h k
theorem AJi(n:Int)(xs:List Int)(i:Nat)(x:Int)(hx:xs[i]? = some x)(hi:i<xs.length)(hl:xs.length<4294967296)(hxr:-9223372036854775808≤x∧x≤9223372036854775807)
  (w:Int) (r:List Int) (came met:List (Int×Int)) (hr:r.length<4294967295) (hc:one came) (hsub:∀ y∈w::r,y∈B2 came) :
  Nc (n,(w::r).reverse,came,met,xs,A4 xs,(i:Int),())=match goF n x (w::r,came,met)with
   |.inl s=>some (.inl (n,s.1.reverse,s.2.1,s.2.2,xs,A4 xs,((i+1:Nat):Int),()))
   |.inr y=>some (.inr y):=by
 have hd:A4 ((w::r).reverse)=((r.length+1:Nat):Int):=by simp[A8]
 have e1:w64 (((r.length+1:Nat):Int)-1)=(r.length:Int):=by rw[Bu (by omega)];rfl
 have i1:idx ((w::r).reverse) (r.length:Int)=some w:=by rw[kM];simp
 have g1:A7 ((w::r).reverse) (A3 (r.length:Int)) (0:Int)=w:=by rw[LM];simp
 have f1:∀ v:Int,fits (A4 ((w::r).reverse)+A4 [v])=true:=fun v=>Bt (by rw[hd,A8];simp only[AXg,AXs];omega);have ap:∀ v:Int,BT ((w::r).reverse) [v]=(v::w::r).reverse:=fun v=>by simp[Dt]
 rw[Nc,A8,A_,AXb hi];rw[A8]at hd;simp only[BK hx,xG n x hxr,goF];cases ht:Cu n x with
  |none=>rfl
  |some t=>
   cases t with
    |ver v=>simp only[Nn,AXh,AYL,A8,hd,e1,i1,g1,Be,Tok.step];rw[A' (by omega)];by_cases h:w=v;simp[h];simp[h]
    |arc u v=>
     simp only[Nn,AXh,A8,hd,e1,i1,g1,Be,Tok.step];rw[A' (by omega)];by_cases h:w=u;subst h;rw[AXb rfl];simp only[AXh];cases r with
      |nil=>
       have z:ilt (0:Int) ((([]:List Int).length:Nat):Int)=false:=by rw[BM];rfl
       simp only[z];rw[BM];have hcv:=hc v;by_cases hv:v∈B2 came;rw[AXb (hcv.2 hv)];simp[hv];rw[AXZ (fun h=>hv (hcv.1 h))];have f2:=f1 v;rw[A8,hd]at f2;have hz:(BA came v).getD (0:Int)=0:=by rw[(Td came v).2 hv];rfl
       have w1:w64 ((0:Int)+1)=1:=by rw[BR (by omega)];rfl
       rw[A8]at f2;simp only[f2,ap v,hz,w1,hv,AXv,AX9]
      |cons p r=>
       have z:ilt (0:Int) (((p::r).length:Nat):Int)=true:=by rw[BM,AXb (by simp only[AXg];omega)]
       have e2:w64 ((((p::r).length:Nat):Int)-1)=(r.length:Int):=by rw[Bu (by simp only[AXg]at hr ⊢;omega)];rfl
       have i2:idx ((w::p::r).reverse) (r.length:Int)=some p:=by rw[kM];simp
       have g2:A7 ((w::p::r).reverse) (A3 (r.length:Int)) (0:Int)=p:=by rw[LM];simp
       simp only[z,e2,i2,g2];by_cases hp:p=v;subst hp;rw[AXb rfl];have hmem:p∈B2 came:=hsub p (by simp);have s1:Cv ((w::p::r).reverse) (0:Int) (((p::r).length:Nat):Int)=some ((p::r).reverse):=by rw[OL (by simp)];rw[List.reverse_cons,AZ7 (by simp)]
       have t1:C1 (A3 (((p::r).reverse.length:Nat):Int)) ((w::p::r).reverse)=(p::r).reverse:=by rw[C1,Mj,List.reverse_cons (a:=w),AZ7 rfl]
       simp only[s1,t1,hmem,AX9];rw[AXZ hp];simp only[hp,AXv];rw[BM];have hcv:=hc v;by_cases hv:v∈B2 came;rw[AXb (hcv.2 hv)];simp[hv];rw[AXZ (fun h=>hv (hcv.1 h))];have f2:=f1 v;rw[A8,hd]at f2;have hz:(BA came v).getD (0:Int)=0:=by rw[(Td came v).2 hv];rfl
       have w1:w64 ((0:Int)+1)=1:=by rw[BR (by omega)];rfl
       rw[A8]at f2;simp only[f2,ap v,hz,w1,hv,AXv,AX9]
     rw[AXZ h];simp[h]
end Go.Pev.Pl
end
section
namespace Go.Pev.Pl
open Tok
theorem D6{a b:List Int}(ha:a.Nodup)(h:∀ x∈a,x∈b):a.length≤b.length:=by
 induction a generalizing b with
  |nil=>simp
  |cons x a ih=>
   obtain⟨b1,b2,rfl⟩:=AZm (h x (by simp));rw[AX8]at ha;have:=ih (b:=b1++b2) ha.2 fun y hy=>by have:=h y (AXx _ hy);simp only[AXq,AXf]at this ⊢;rcases this with h|rfl|h;exact .inl h;exact absurd hy ha.1;exact .inr h
   simp only[AXn,AXg]at this ⊢;omega
theorem Py{a b:List Int}(ha:a.Nodup)(h:∀ x∈a,x∈b)(hl:b.length≤a.length):∀ x∈b,x∈a:=by
 intro x hx;refine AYV fun hn => ?_;have:=D6 (a:=x::a) (b:=b) (AX8.2 ⟨hn,ha⟩) fun y hy=>by rcases AXf.1 hy with rfl|hy;exact hx;exact h y hy
 simp only[AXg]at this;omega
theorem Wz{way c c2:List Int}(h:∀ x,x∈c↔x∈c2)(t:Tok):
  (Tok.step (way,c) t=none↔Tok.step (way,c2) t=none)∧∀ w1 c1,Tok.step (way,c) t=some (w1,c1)→∃ c1',Tok.step (way,c2) t=some (w1,c1')∧∀ x,x∈c1↔x∈c1':=by
 cases t with
  |ver v=>
   cases way with
    |nil=>simp[Tok.step]
    |cons w r=>by_cases e:w=v;simp only[Tok.step,e,AX9];exact⟨by simp,fun w1 c1 hh=>by cases hh;exact⟨c2,rfl,h⟩⟩;simp[Tok.step,e]
  |arc u v=>
   cases way with
    |nil=>simp[Tok.step]
    |cons w r=>
     by_cases e:w=u;cases r with
      |nil=>by_cases hv:v∈c;simp[Tok.step,e,hv,(h v).1 hv];have hv2:v∉c2:=fun q=>hv ((h v).2 q);simp only[Tok.step,e,AX9,hv,hv2,AXv];exact⟨by simp,fun w1 c1 hh=>by cases hh;exact⟨v::c2,rfl,fun x=>by simp[h]⟩⟩
      |cons p r=>by_cases e2:p=v;simp only[Tok.step,e,AX9,e2];exact⟨by simp,fun w1 c1 hh=>by cases hh;exact⟨c2,rfl,h⟩⟩;by_cases hv:v∈c;simp[Tok.step,e,e2,hv,(h v).1 hv];have hv2:v∉c2:=fun q=>hv ((h v).2 q);simp only[Tok.step,e,AX9,e2,hv,hv2,AXv];exact⟨by simp,fun w1 c1 hh=>by cases hh;exact⟨v::c2,rfl,fun x=>by simp[h]⟩⟩
     simp[Tok.step,e]
structure GI(s:ABs):Prop where
 ne:s.1≠[]
 one:one s.2.1
 sub:∀ y∈s.1,y∈B2 s.2.1
 nc:(B2 s.2.1).Nodup
 nm:(B2 s.2.2).Nodup
theorem AEx{n x:Int}{s s':ABs}(hi:GI s)(h:goF n x s = .inl s'):
  GI s'∧s'.1.length≤s.1.length+1∧∃ t c1,Cu n x=some t∧Tok.step (s.1,B2 s.2.1) t=some (s'.1,c1)∧(∀ x,x∈c1↔x∈B2 s'.2.1)∧(∀ y,y∈B2 s'.2.2↔y∈B2 s.2.2∨Tok.ver y=t):=by
 rw[goF]at h;cases ht:Cu n x with
  |none=>rw[ht]at h;cases h
  |some t=>
   rw[ht]at h;simp only at h;cases hs:Tok.step (s.1,B2 s.2.1) t with
    |none=>rw[hs]at h;cases h
    |some q=>
     obtain⟨w1,c1⟩:=q;rw[hs]at h;rcases EE hs with⟨v,r,rfl,hw,e⟩|⟨u,v,r,rfl,hw,e⟩|⟨u,v,r,rfl,hw,hh,hn,e⟩
     cases h;cases e;refine⟨⟨hi.ne,hi.one,hi.sub,hi.nc,J4 hi.nm _ _⟩,by simp,_,_,rfl,hs,fun x=>Iff.rfl,fun y => ?_⟩;rw[FU];simp[or_comm];cases h;cases e;simp only at hw;have hv:v∈B2 s.2.1:=hi.sub v (by rw[hw];simp);simp only[hv,AX9];refine⟨⟨by simp,hi.one,fun y hy=>hi.sub y (by rw[hw];exact AXx _ hy),hi.nc,hi.nm⟩,by rw[hw];simp,_,_,rfl,hs,fun x=>Iff.rfl,fun y=>by simp⟩;cases h;cases e;simp only at hw hn;simp only[hn,AXv];refine⟨⟨by simp,AIl hi.one v,fun y hy => ?_,J4 hi.nc _ _,hi.nm⟩,by rw[hw];simp,_,_,rfl,hs,fun x => ?_,fun y=>by simp⟩;rw[FU];rcases AXf.1 hy with rfl|hy;exact .inl rfl;exact .inr (hi.sub y (by rw[hw];exact hy));rw[FU,AXf]
def sH(s:ABs):AU5:=.inr (.inl (s.1.reverse,s.2.1,s.2.2,()))
theorem AJg(n:Int):∀ (xs:List Int) (s:ABs) (c:List Int),GI s→(∀ x,x∈c↔x∈B2 s.2.1) →
  (∃ L s' c',xs=L.map (EP n)∧(∀ t∈L,okT n t)∧run (s.1,c) L=some (s'.1,c')∧walk (goF n) sH xs s=sH s'∧GI s'∧(∀ x,x∈c'↔x∈B2 s'.2.1)∧(∀ x,x∈B2 s'.2.2↔x∈B2 s.2.2∨Tok.ver x∈L)) ∨
  (walk (goF n) sH xs s = .inl (false,())∧∀ L,xs=L.map (EP n)→(∀ t∈L,okT n t)→run (s.1,c) L=none):=by
 intro xs;induction xs with
  |nil=>intro s c hi hc;exact .inl ⟨[],s,c,rfl,by simp,rfl,rfl,hi,hc,by simp⟩
  |cons x xs ih=>
   intro s c hi hc;rw[walk];have bad:∀ {t},Cu n x=some t→Tok.step (s.1,B2 s.2.1) t=none→∀ L,x::xs=L.map (EP n)→(∀ t∈L,okT n t)→run (s.1,c) L=none:=by
    intro t ht hs L hL hok;cases L with
     |nil=>cases hL
     |cons t' L=>simp only[AX4,AXz]at hL;have h1:=EY (hok t' (by simp));rw[← hL.1,ht]at h1;cases h1;rw[B7,((Wz hc t).1).2 hs];rfl
   cases hg:goF n x s with
    |inr r=>
     simp only;have hr:r = .inl (false,())∧∀ L,x::xs=L.map (EP n)→(∀ t∈L,okT n t)→run (s.1,c) L=none:=by
      rw[goF]at hg;cases ht:Cu n x with
       |none=>
        rw[ht]at hg;cases hg;refine⟨rfl,fun L hL hok => ?_⟩;cases L with
         |nil=>cases hL
         |cons t' L=>simp only[AX4,AXz]at hL;have h1:=EY (hok t' (by simp));rw[← hL.1,ht]at h1;cases h1
       |some t=>
        rw[ht]at hg;simp only at hg;cases hs:Tok.step (s.1,B2 s.2.1) t with
         |none=>rw[hs]at hg;cases hg;exact⟨rfl,bad ht hs⟩
         |some q=>rw[hs]at hg;cases t<;>cases hg
     rw[hr.1];exact .inr ⟨rfl,hr.2⟩
    |inl s'=>
     simp only;obtain⟨hi',_,t,c1,ht,hs,hcc,hm⟩:=AEx hi hg;obtain⟨c1',hs',hcc'⟩:=(Wz (c:=B2 s.2.1) (c2:=c) (fun x=>(hc x).symm) t).2 _ _ hs;obtain⟨g1,g2⟩:=Sh ht;rcases ih s' c1' hi' (fun x=>(hcc' x).symm.trans (hcc x))with⟨L,s2,c2,a1,a2,a3,a4,a5,a6,a7⟩|⟨a1,a2⟩
     refine .inl ⟨t::L,s2,c2,by simp[g2,a1],?_,by rw[B7,hs'];exact a3,a4,a5,a6,fun y => ?_⟩;intro y hy;rcases AXf.1 hy with rfl|hy;exact g1;exact a2 y hy;rw[a7,hm,AXf,or_assoc];refine .inr ⟨a1,fun L hL hok => ?_⟩;cases L with
      |nil=>cases hL
      |cons t' L=>simp only[AX4,AXz]at hL;have h1:=EY (hok t' (by simp));rw[← hL.1,ht]at h1;cases h1;rw[B7,hs'];exact a2 L hL.2 fun y hy=>hok y (AXx _ hy)
theorem xx:∀ {l:List Tok} {s s':List Int×List Int},run s l=some s'→s'.1.getLast? = s.1.getLast? := by
 intro l;induction l with
  |nil=>intro s s' h;cases h;rfl
  |cons t l ih=>
   intro s s' h;rw[B7,AYR]at h;obtain⟨s1,h1,h2⟩:=h;rw[ih h2];rcases EE h1 with⟨v,r,rfl,hw,rfl⟩|⟨u,v,r,rfl,hw,rfl⟩|⟨u,v,r,rfl,hw,hh,hn,rfl⟩
   rfl;rw[hw,AaF];rw[hw,AaF]
theorem AMq:∀ {l:List Tok} {s s':List Int×List Int},run s l=some s'→Tok.Inv s→∀ x,Tok.ver x∈l→x∈s'.2:=by
 intro l;induction l with
  |nil=>intro s s' _ _ x hx;cases hx
  |cons t l ih=>intro s s' h hi x hx;rw[B7,AYR]at h;obtain⟨s1,h1,h2⟩:=h;obtain⟨i1,i2,i3⟩:=Wy h1 hi;rcases AXf.1 hx with rfl|hx;have:=(Ph h2 i1).2.1;refine this x (i1.2 x ?_);simp only[st]at i3;exact List.mem_of_head? i3;exact ih h2 i1 x hx
theorem AI6{n:Int}{L:List Tok}(h:(L.map (EP n)).Nodup):L.Nodup:=by rw[List.Nodup,AZG]at h;exact h.imp fun h e=>h (by rw[e])
theorem AFd{n x:Int}{xs:List Int}(h:TI n (x::xs))(hm:Gz (x::xs)=x):In n x:=by
 obtain⟨L,h1,h2,h3⟩:=h;obtain⟨v,r,hr⟩:=h3.tN;have hv:Tok.ver v∈L:=(hr.mem _).2 (by simp);have hvx:v∈x::xs:=by rw[h1];exact AYE.2 ⟨_,hv,rfl⟩
 have h4:=(FI (xs:=x::xs) (by simp)).2 v hvx;rw[hm]at h4;have h5:=(h2 _ hv).2.2.2;cases L with
  |nil=>cases h1
  |cons t L=>
   simp only[AX4,AXz]at h1;have h6:=h2 t (by simp);cases t with
    |ver w=>rw[h1.1];exact h6
    |arc p q=>have:=(WJ h6.1 h6.2.1).1;have e:x=n*(p+1)+q:=h1.1;omega
theorem APh(n:Int)(xs:List Int)(h0:xs≠[])(hs:xs.length<2147483648)(hr:∀ x∈xs, -9223372036854775808≤x∧x≤9223372036854775807)(hn:xs.Nodup)(hm:∀ x,xs.head? = some x→Gz xs=x):
  goes (n,xs,())=some (decide (TI n xs),()):=by
 cases xs with
  |nil=>exact absurd rfl h0
  |cons x0 tl=>
   rw[AEw,AAU];have i0:idx (x0::tl) (0:Int)=some x0:=by rw[G2];rfl
   simp only[i0,il];by_cases hin:In n x0;rw[AXb hin];simp only[AXh];have hS:GI ([x0],BP [] x0 1,[]):=by
    refine⟨by simp,fun k => ?_,fun y hy => ?_,?_,by simp[B2]⟩;have:BA (BP ([]:List (Int×Int)) x0 1) k=if k=x0 then some 1 else none:=by rw[Ha];rfl
    rw[this];by_cases e:k=x0<;>simp[e,BP,B2];simp at hy;subst hy;simp[BP,B2];simp[BP,B2]
   have e:=Ct (step:=Nc) (fun i (s:ABs)=>(n,s.1.reverse,s.2.1,s.2.2,x0::tl,A4 (x0::tl),(i:Int),())) (x0::tl) (goF n) sH (fun i s=>GI s∧s.1.length≤i+1) (by omega)
    (fun i x s hi hx ⟨hI,hlen⟩=>by
     obtain⟨way,came,met⟩:=s
     cases way with
     |nil=>exact absurd rfl hI.ne
     |cons w r=>
      have hst:=AJi n (x0::tl) i x hx hi (by omega) (hr x (AXk hx)) w r came met (by simp only[AXg]at hlen hi hs;omega) hI.one hI.sub
      refine⟨fun s' h' => ?_,fun y h' => ?_⟩
      ·rw[h']at hst
       obtain⟨g1,g2,_⟩:=AEx hI h'
       refine⟨hst,g1,?_⟩
       simp only at g2 hlen
       omega
      ·rw[h']at hst
       exact hst)
    (fun s _=>by rw[Nc,A8,A_,AXZ (by omega)];rfl) ([x0],BP [] x0 1,[]) ⟨hS,by simp⟩
   have e':A9 Nc many (n,[x0],BP [] x0 1,[],x0::tl,A4 (x0::tl),(0:Int),())=_:=e;rw[e'];have hk0:B2 (BP ([]:List (Int×Int)) x0 1)=[x0]:=rfl;rcases AJg n (x0::tl) ([x0],BP [] x0 1,[]) [x0] hS (fun x=>by rw[hk0])with⟨L,s',c',a1,a2,a3,a4,a5,a6,a7⟩|⟨a1,a2⟩
   rw[a4];obtain⟨t,L',rfl⟩:∃ t L',L=t::L':=by cases L with
    |nil=>cases a1
    |cons t L'=>exact⟨t,L',rfl⟩
   have ht:t = .ver x0:=by have h1:=EY (a2 t (by simp));simp only[AX4,AXz]at a1;rw[← a1.1,Cu,AXp hin]at h1;exact(AZP h1).symm
   subst ht;have hLn:(Tok.ver x0::L').Nodup:=AI6 (n:=n) (by rw[← a1];exact hn);have hbot:=xx a3;have hvs:=AMq a3 (Q' x0);have hk:(B2 s'.2.2).length≤(B2 s'.2.1).length:=D6 a5.nm fun x hx=>by have:=(a7 x).1 hx;simp only[B2,AZc,AY9,false_or]at this;exact(a6 x).1 (hvs x this)
   have hiff:(s'.1.length=1∧(B2 s'.2.2).length=(B2 s'.2.1).length)↔TI n (x0::tl):=by
    constructor;rintro⟨l1,l2⟩;obtain⟨w,hw⟩:=List.length_eq_one_iff.1 l1;rw[hw]at hbot a3;simp at hbot;subst hbot;refine⟨_,a1,a2,Tok.BQ.toT ⟨w,L',c',rfl,a3,fun x hx => ?_⟩ hLn⟩;have h1:=Py a5.nm (fun x hx=>by have:=(a7 x).1 hx;simp only[B2,AZc,AY9,false_or]at this;exact(a6 x).1 (hvs x this)) (by omega) x ((a6 x).1 hx)
    have:=(a7 x).1 h1;simpa [B2]using this;rintro⟨K,k1,k2,k3⟩;have hKL:K=Tok.ver x0::L':=by
     have:∀ (A B:List Tok),A.map (EP n)=B.map (EP n)→(∀ t∈A,okT n t)→(∀ t∈B,okT n t)→A=B:=by
      intro A;induction A with
       |nil=>intro B h _ _;cases B with
        |nil=>rfl
        |cons b B=>cases h
       |cons a A ih=>
        intro B h hA hB;cases B with
         |nil=>cases h
         |cons b B=>simp only[AX4,AXz]at h;rw[Gi (hA a (by simp)) (hB b (by simp)) h.1,ih B h.2 (fun t ht=>hA t (by simp[ht])) fun t ht=>hB t (by simp[ht])]
     exact this _ _ (by rw[← k1,a1]) k2 a2
    subst hKL;obtain⟨r,l',c,q1,q2,q3⟩:=k3.iY;cases q1;rw[a3]at q2;cases hs':s'.1 with
     |nil=>rw[hs']at q2;cases q2
     |cons w r'=>rw[hs']at q2;cases q2;refine⟨rfl,?_⟩;have:=D6 a5.nc (b:=B2 s'.2.2) fun x hx=>(a7 x).2 (.inr (q3 x ((a6 x).2 hx)));omega
   simp only[sH,Be,A8,List.length_reverse];rw[SH,SH]at hiff;by_cases l1:s'.1.length=1;rw[AXb (show(s'.1.length:Int)=1 by omega)];simp only[l1,AZg]at hiff;by_cases l2:s'.2.2.length=s'.2.1.length;rw[AXb (show(s'.2.2.length:Int)=(s'.2.1.length:Int) by omega),AXb (hiff.1 l2)];rw[AXZ (show ¬ (s'.2.2.length:Int)=(s'.2.1.length:Int) by omega),AXZ (fun h=>l2 (hiff.2 h))];rw[AXZ (show ¬ (s'.1.length:Int)=1 by omega),AXZ (fun h=>l1 (hiff.2 h).1)];rw[a1];have:¬ TI n (x0::tl):=by
    rintro⟨K,k1,k2,k3⟩;obtain⟨r,l',c,q1,q2,q3⟩:Tok.BQ K:=by
     obtain⟨t,L',rfl⟩:∃ t L',K=t::L':=by cases K with
      |nil=>cases k1
      |cons t L'=>exact⟨t,L',rfl⟩
     have h1:=EY (k2 t (by simp));simp only[AX4,AXz]at k1;rw[← k1.1,Cu,AXp hin]at h1;cases h1;exact k3.iY
    have hr0:r=x0:=by subst q1;simp only[AX4,AXz]at k1;exact k1.1.symm
    subst hr0;have:=a2 K k1 k2;simp only at this;rw[q2]at this;cases this
   simp[this];rw[AXZ hin];have:¬ TI n (x0::tl):=fun h=>hin (AFd h (hm x0 rfl));simp[this]
end Go.Pev.Pl
end
end
section
namespace Go.Pev.Pl.Tok
theorem T.join{u v:Int}{a b:List Tok}(hA:T (.ver u::a))(hB:T (.ver v::b))(hd:∀ x,Tok.ver x∈Tok.ver u::a→Tok.ver x∉Tok.ver v::b):
  T (.ver u :: .arc u v::(.ver v::b ++ .arc v u::a)):=by
 obtain⟨_,fA2,fA3⟩:=hA.facts;obtain⟨_,fB2,fB3⟩:=hB.facts;have nA:=hA.nodup;have nB:=hB.nodup;obtain⟨_,_,c1,e1,h1,m1⟩:=hA.iY;cases e1;obtain⟨_,_,c2,e2,h2,m2⟩:=hB.iY;cases e2;have huv:u≠v:=by rintro rfl;exact hd u (by simp) (by simp)
 have nAB:∀ t,t∈Tok.ver u::a→t∉Tok.ver v::b:=fun t ht hb=>hd _ (fA2 t ht) (fB2 t hb);have n1:Tok.arc u v∉Tok.ver u::a:=fun h=>hd v (fA3 _ _ h).2.1 (by simp);have n2:Tok.arc u v∉Tok.ver v::b:=fun h=>hd u (by simp) (fB3 _ _ h).1;have n3:Tok.arc v u∉Tok.ver u::a:=fun h=>hd v (fA3 _ _ h).1 (by simp);have n4:Tok.arc v u∉Tok.ver v::b:=fun h=>hd u (by simp) (fB3 _ _ h).2.1;have hnd:(Tok.ver u :: .arc u v::(.ver v::b ++ .arc v u::a)).Nodup:=by rw[AX8]at nA;have q1:Tok.ver u∉Tok.ver v::b:=nAB _ (by simp);rw[AX8,AX8,AZU,AX8 (a:=Tok.arc v u)];refine⟨?_,?_,nB,⟨fun h=>n3 (AXx _ h),nA.2⟩,fun x hx y hy => ?_⟩;intro h;rcases AXf.1 h with h|h;cases h;rcases AXq.1 h with h|h;exact q1 h;rcases AXf.1 h with h|h;cases h;exact nA.1 h;intro h;rcases AXq.1 h with h|h;exact n2 h;rcases AXf.1 h with h|h;cases h;exact huv rfl;exact n1 (AXx _ h);rintro rfl;rcases AXf.1 hy with h|h;subst h;exact n4 hx;exact nAB x (AXx _ h) hx
 rw[B7,Eo,AYA]at h1;obtain⟨d2,k1,k2⟩:=Ho (Z:=(· = u)) (c2:=[v,u]) (low:=[u]) h2 (by simp) (fun y=>by simp) (fun p w hm=>by rintro rfl;exact hd w (by simp) (fB3 _ _ hm).2.1) (by simp)
 obtain⟨d3,g1,g2⟩:=Ho (Z:=(·∈c2)) (c2:=d2) (low:=[]) h1 (by simp) (fun y=>by rw[k2];simp[or_comm]) (fun p w hm hz=>hd w (fA3 _ _ (AXx _ hm)).2.1 (m2 w hz)) (by simp)
 refine BQ.toT ⟨u,_,d3,rfl,?_,fun x hx => ?_⟩ hnd;rw[B7,Eo,AYA,B7,Hn _ _ _ _ (by simp) (by simp;exact AYm huv),AYA,E2];rw[show([v]++[u]:List Int)=[v,u]from rfl]at k1;rw[k1,AYA,B7,IE,AYA];simpa using g1;rcases(g2 x).1 hx with h|h;have:=m1 x h;simp only[AXf,AXq]at this ⊢;rcases this with h|h<;>simp[h];have:=m2 x h;simp only[AXf,AXq]at this ⊢;rcases this with h|h<;>simp[h]
end Go.Pev.Pl.Tok
end
section
namespace Go.Pev
open Go.RowKit Go.ChangeShapes Go.WideShapes Go.ChangeAt
def OP(P:Program)(rd:TypeId→Option Ty):List Field→Nat→Option Ty
 |[],_=>some .unit
 |f::r,off=>match rd f.type,OP P rd r (off+P.cellsOf f.type)with
  |some a,some b=>match Nat.beq f.offset off&&Nat.beq (P.cellsOf f.type) a.size with
   |true=>some (.prod a b)
   |false=>none
  |_,_=>none
def GC(P:Program):Nat→TypeId→Option Ty
 |0,_=>none
 |n+1,t=>match P.underlying t with
  |some .bool=>some .bool
  |some (.int k)=>some (.int k)
  |some (.slice e)=>match GC P n e with
   |some a=>match Nat.beq (P.cellsOf e) a.size && !(Nat.beq a.size 0)with
    |true=>some (.slice a)
    |false=>none
   |none=>none
  |some (.array c e)=>match GC P n e with
   |some a=>match Nat.beq (P.cellsOf e) a.size&&Nat.beq (P.cellsOf t) (c*a.size)with
    |true=>some (.arr c a)
    |false=>none
   |none=>none
  |some (.struct fs)=>match OP P (GC P n) fs.toList 0 with
   |some a=>match Nat.beq (P.cellsOf t) a.size with
    |true=>some a
    |false=>none
   |none=>none
  |_=>none
def wfD:(t:Ty)→t.den→Prop
 |.unit,_=>True
 |.bool,_=>True
 |.int k,n=>k.min≤n∧n≤k.max
 |.slice e,xs=>List.length (α:=e.den) xs≤maxLen∧∀ x∈(xs:List e.den),wfD e x
 |.prod a b,d=>wfD a d.1∧wfD b d.2
 |.arr n e,xs=>List.length (α:=e.den) xs=n∧∀ x∈(xs:List e.den),wfD e x
 |.nul _,_=>True
 |.mapi _ _,_=>True
section
variable {H:Type} {enc:TypeId×Value→H} {P:Program} {w:World} {spare:Nat→Bool} {held:Bool}
abbrev below(w:World):Nat→Prop:=fun b=>b<w.heap.size
theorem AVD{k:IntKind}{n:Int}(h:(Lit.int k n).wf=true):k.min≤n∧n≤k.max:=by simpa [Lit.wf]using h
theorem ADX{α:Type}{R:α→List Value→Prop}{k:Nat}:∀ (m:Nat) (f:Nat→List Value),(∀ i,i<m→(f i).length=k∧∃ x,R x (f i))→∃ xs:List α,xs.length=m∧rows R xs ((List.range m).flatMap f)∧∀ x∈xs,∃ i,i<m∧R x (f i):=by
 intro m;induction m with
  |zero=>intro f _;exact⟨[],rfl,rfl,fun x hx=>by cases hx⟩
  |succ m ih=>intro f h;obtain⟨xs,h1,h2,h3⟩:=ih f fun i hi=>h i (by omega);obtain⟨_,x,hx⟩:=h m (by omega);refine⟨xs++[x],by simp[h1],?_,fun y hy => ?_⟩;rw[AYZ,AZ3];exact II h2 (by simp;exact⟨f m,[],by simp,hx,rfl⟩);grind
theorem APu{f:Nat→List Value}{k:Nat}:∀ (m:Nat),(∀ i,i<m→(f i).length=k)→∀ (j:Nat) (u:Value),((List.range m).flatMap f)[j]? = some u→∃ i r,i<m∧r<k∧j=i*k+r∧(f i)[r]? = some u:=by
 intro m;induction m with
  |zero=>simp
  |succ m ih=>
   intro hl j u h;rw[AYZ,AZ3]at h;have hlen:∀ m',m'≤m→((List.range m').flatMap f).length=m'*k:=by
    intro m' hm';induction m' with
     |zero=>simp
     |succ m' ih'=>rw[AYZ,AZ3,AXn,ih' (by omega)];grind
   rcases AZd j (m*k)with hj|hj;rw[AYu (by grind)]at h;obtain⟨i,r,h1,h2,h3,h4⟩:=ih (fun i hi=>hl i (by omega)) j u h;grind;rw[AYF (by grind),hlen m (AXl _)]at h;grind
theorem AQ7(a:Addr)(i j:Nat):(a.add i).add j=a.add (i+j):=by unfold Addr.add;grind
theorem ABV{α:Type}[Inhabited α]{n:Nat}{p:Nat→α→Prop}(h:∀ i,i<n→∃ x,p i x):∃ f:Nat→α,∀ i,i<n→p i (f i):=by classical refine⟨fun i=>if hi:i<n then Classical.choose (h i hi)else default,fun i hi => ?_⟩;grind
theorem yZ{rd:TypeId→Option Ty}{cs:List Value}(hrd:∀ (f:Field) (a:Ty),rd f.type=some a→(P.cellsOf f.type=a.size)→(∃ y:Nat×(DataW H×List MemPlace),DataW.trod enc P w 0 spare held y.1 f.type ((cs.drop f.offset).take (P.cellsOf f.type))=some y.2)→∃ d:a.den,Dat w (below w) a d ((cs.drop f.offset).take (P.cellsOf f.type))∧wfD a d):
  ∀ (fs:List Field) (off:Nat) (t:Ty),OP P rd fs off=some t→off+t.size=cs.length→(∀ f∈fs,∃ y:Nat×(DataW H×List MemPlace),DataW.trod enc P w 0 spare held y.1 f.type ((cs.drop f.offset).take (P.cellsOf f.type))=some y.2) →
   ∃ d:t.den,Dat w (below w) t d (cs.drop off)∧wfD t d:=by
 intro fs;induction fs with
  |nil=>
   intro off t h hl _;simp only[OP,AXa]at h;subst h;refine⟨(),?_,trivial⟩;show cs.drop off=[]
   simp[Ty.size]at hl;grind
  |cons f r ih=>intro off t h hl hf;simp only[OP]at h;split at h;rename_i a b ha hb;split at h;rename_i hc;simp only[AXa]at h;subst h;simp only[AXd]at hc;have h1:=AYC hc.1;have h2:=AYC hc.2;obtain⟨d,hd,hw⟩:=hrd f a ha h2 (hf f (by simp));simp only[Ty.size]at hl;obtain⟨e,he,hw'⟩:=ih (off+P.cellsOf f.type) b hb (by omega) fun g hg=>hf g (by simp[hg]);refine⟨(d,e),⟨(cs.drop off).take (P.cellsOf f.type),cs.drop (off+P.cellsOf f.type),?_,?_,he⟩,hw,hw'⟩;rw[← AZA,AYK];grind;grind;grind
theorem ALt:∀ (n:Nat) (t:TypeId) (ty:Ty) (fuel:Nat) (cs:List Value) (x:DataW H×List MemPlace),GC P n t=some ty→DataW.trod enc P w 0 spare held fuel t cs=some x→∃ d:ty.den,Dat w (below w) ty d cs∧wfD ty d:=by
 intro n;induction n with
  |zero=>intro t ty fuel cs x h;cases h
  |succ n ih=>
   intro t ty fuel cs x h hx;simp only[GC]at h;split at h;rename_i hu;simp only[AXa]at h;subst h;obtain⟨b,rfl,_⟩:=DataW.trod_bool hu hx;exact⟨b,rfl,trivial⟩;rename_i k hu;simp only[AXa]at h;subst h;obtain⟨m,rfl,_,hw⟩:=DataW.trod_int hu hx;exact⟨m,rfl,AVD hw⟩;rename_i e hu;split at h;rename_i a ha;split at h;rename_i hc;simp only[AXa]at h;subst h;rw[AXd]at hc;have hpos:a.size≠0:=fun h0=>by simp_all
   have hc:=AYC hc.1;rcases DataW.trod_slice hu hx with⟨rfl,_⟩|⟨ad,len,cap,elems,rest,m,rfl,rfl,_,_,hle,hmax,hlen,hel,_⟩
   exact⟨[],⟨none,0,rfl,AXl _,fun hne=>absurd rfl hne⟩,AZ1 _,fun x hx=>by cases hx⟩;-- each element
   have each:∀ i,i<len→∃ cs',w.cells? 0 (ad.add (i*P.cellsOf e)) (P.cellsOf e)=some cs'∧∃ d:a.den,Dat w (below w) a d cs'∧wfD a d:=by intro i hi;have h1:=hel i hi;rw[AXj (by omega),AYR]at h1;grind
   obtain⟨f,hf⟩:=ABV (α:=List Value) (p:=fun i cs'=>w.cells? 0 (ad.add (i*P.cellsOf e)) (P.cellsOf e)=some cs'∧∃ d:a.den,Dat w (below w) a d cs'∧wfD a d) each;have hfl:∀ i,i<len→(f i).length=a.size:=by intro i hi;obtain⟨_,hl,_⟩:=World.cells?_some (hf i hi).1;omega
   obtain⟨xs,h1,h2,h3⟩:=ADX (R:=fun(d:a.den) cs=>Dat w (below w) a d cs∧wfD a d) (k:=a.size) len f fun i hi=>⟨hfl i hi,(hf i hi).2⟩
   refine⟨xs,⟨some ad,cap,by rw[h1],by omega,fun hne=>⟨ad,(List.range len).flatMap f,rfl,?_,B8 (fun x _ cs hx=>hx.1) h2,fun j u hu => ?_⟩⟩,by omega,fun x hx => ?_⟩;-- the block is there
   have hl0:0<len:=by grind
   have hb:=World.cells?_block (hf 0 hl0).1 (by omega);rw[AZr]at hb;have e0:ad.add 0=ad:=by simp[Addr.add]
   grind;obtain⟨i,r,hi,hr,rfl,hur⟩:=APu len hfl j u hu;obtain⟨_,_,hcell⟩:=World.cells?_some (hf i hi).1;have:=hcell r (by omega);rw[hur]at this;rw[← this,hc,AQ7];grind;grind;grind;rename_i c e hu;split at h;rename_i a ha;split at h;rename_i hc;simp only[AXa]at h;subst h;rw[AXd]at hc;have hc1:=AYC hc.1;have hc2:=AYC hc.2;obtain⟨xs,m,rfl,_,hl,hxs,hfs⟩:=DataW.trod_array hu hx;rw[hc2]at hl;obtain⟨ys,h1,h2,h3⟩:=ADX (R:=fun(d:a.den) cs=>Dat w (below w) a d cs∧wfD a d) (k:=a.size) c (fun i=>(cs.drop (i*a.size)).take a.size) fun i hi=>by
    have hi1:i*a.size+a.size≤c*a.size:=by have:=AYT a.size (show i+1≤c from hi);grind
    grind
   have hjoin:∀ k,k≤c→(List.range k).flatMap (fun i=>(cs.drop (i*a.size)).take a.size)=cs.take (k*a.size):=by
    intro k;induction k with
     |zero=>simp
     |succ k ihk=>intro hk;rw[AYZ,AZ3,ihk (by omega),AYr,AZa,List.take_add];simp
   rw[hjoin c (AXl _),← hl,AZJ]at h2;exact⟨ys,⟨h1,B8 (fun x _ cs hx=>hx.1) h2⟩,h1,fun x hx=>by grind⟩;grind;grind;rename_i fs hu;split at h;rename_i a ha;split at h;rename_i hc;simp only[AXa]at h;subst h;have hc:=AYC hc;obtain⟨xs,m,rfl,_,hl,hxs,hfs⟩:=DataW.trod_struct hu hx;obtain⟨d,hd,hw⟩:=yZ (enc:=enc) (w:=w) (spare:=spare) (held:=held) (cs:=cs) (fun f b hb _ ⟨y,hy⟩=>ih f.type b y.1 _ y.2 hb hy) fs.toList 0 _ ha (by omega) (fun f hf=>by
    obtain⟨i,hi⟩:=List.getElem?_of_mem hf;have h1:=hfs i f (by grind);have hlt:i<xs.length:=by grind
    rw[AXj hlt]at h1;exact⟨(m,xs[i]),h1⟩)
   grind;grind;grind;grind
theorem zp{r:Reach}{b0:Nat}{t:TypeId}{v:Value}(hval:Value.okWide P w r b0 t v)(hn:∀ d,P.underlying t=some d→(match d with|.bool|.int _|.slice _=>true|_=>false)=true){ty:Ty}{n:Nat}(h:GC P (n+1) t=some ty):v.cells.toList=[v]:=by
 simp only[Value.okWide]at hval;have hu:∃ d,P.underlying t=some d:=by
  cases hu:P.underlying t with
   |none=>simp only[GC,hu]at h;cases h
   |some d=>simp
 obtain⟨d,hu⟩:=hu;have:=hn d hu;rw[hu]at hval;cases d<;>simp only[AXw]at this<;>simp only[Cell.okWide,hu]at hval<;>cases v<;>first|rfl|(simp_all [Cell.ok])
theorem Wi{r:Reach}{b0:Nat}{t:TypeId}{v:Value}{ps:List MemPlace}{dd:DataW H}(hval:Value.okWide P w r b0 t v)(hd:DataW.Trod enc P w 0 spare held t v dd ps){ty:Ty}{n:Nat}(h:GC P (n+1) t=some ty):
  ∃ d:ty.den,CW w (below w) ty d v∧wfD ty d:=by
 obtain⟨fuel,hf⟩:=hd;obtain⟨d,h1,h2⟩:=ALt (n+1) t ty fuel _ _ h hf;refine⟨d,?_,h2⟩;have one:(∀ d,P.underlying t=some d→(match d with|.bool|.int _|.slice _=>true|_=>false)=true)→ty.isAgg=false→CW w (below w) ty d v:=by intro hn hg;unfold CW;rw[hg];rw[zp hval hn h]at h1;exact h1
 have agg:(∃ cs,v = .agg cs)→ty.isAgg=true→CW w (below w) ty d v:=by rintro⟨cs,rfl⟩ hg;unfold CW;rw[hg];exact⟨cs,rfl,h1⟩
 have hu:∃ d,P.underlying t=some d:=by
  cases hu:P.underlying t with
   |none=>simp only[GC,hu]at h;cases h
   |some d=>simp
 obtain⟨td,hu⟩:=hu;simp only[GC,hu]at h;split at h;rename_i hq;cases hq;simp only[AXa]at h;subst h;exact one (fun d hd=>by grind) rfl;rename_i k hq;cases hq;simp only[AXa]at h;subst h;exact one (fun d hd=>by grind) rfl;rename_i e hq;cases hq;split at h;split at h;simp only[AXa]at h;subst h;exact one (fun d hd=>by grind) rfl;grind;grind;rename_i c e hq;cases hq;have hv:∃ cs,v = .agg cs:=by simp only[Value.okWide,hu]at hval;grind
 split at h;split at h;simp only[AXa]at h;subst h;exact agg hv rfl;grind;grind;rename_i fs hq;cases hq;have hv:∃ cs,v = .agg cs:=by simp only[Value.okWide,hu]at hval;grind
 split at h;rename_i a ha;split at h;simp only[AXa]at h;subst h;refine agg hv ?_;cases hfs:fs.toList with
  |nil=>rw[hfs]at ha;simp only[OP,AXa]at ha;subst ha;rfl
  |cons f r=>rw[hfs]at ha;simp only[OP]at ha;split at ha;split at ha;simp only[AXa]at ha;subst ha;rfl;grind;grind
 grind;grind;grind
theorem bT{g:FuncId}{s:Spec}(hs:BV P g s){args:List AV}{b:Bool}{e:Eff}(hrun:s (AV×Eff) args [] [] 0 (fun v e=>some (v,e))=some (.data .bool b,e)){vals:List Value}
  (hr:BD w (below w) (fun _=>none) [] args vals) (hglo:ALE w (below w):=by intro p h;simp[kU]at h):Calls P g vals.toArray w fun en w'=>en = .returned (.bool b)∧Below w.heap.size w w':=by
 obtain⟨v,e',h1,_,_,h4⟩:=hs _ args [] [] 0 _ _ hrun;simp only[AXa,AXt]at h1;obtain⟨rfl,rfl⟩:=h1;have hi:HI w (below w) (fun _=>none) [] []:=⟨fun id o h=>by simp at h,fun i T e t xs ver out h=>by simp at h,fun i T e t xs ver out h=>by simp at h,fun i j b c b' c' _ _ _ h=>(nomatch h),fun i b c _ h=>(nomatch h),fun i T t xs b c h=>by simp at h,fun b h=>h,hglo,rfl⟩
 refine(h4 w _ _ vals hi hr).mono ?_;rintro en w' ⟨u,rfl,F',m',⟨hx,_⟩,hu⟩;have hb:u = .bool b:=Da hu;subst hb;exact⟨rfl,hx.os,hx.tape,hx.output,hx.size,fun i hi=>hx.keep i hi fun j c _ h=>by cases h⟩
end
section
variable {H:Type} {enc:TypeId×Value→H} {P:Program}
theorem aS{f:Func}{s:ChangeSpec}{apart fresh handsOn again:Bool}{W W':World}{args:Array Value}{v:Value}{ds gs:List (DataW H)}{before pa pv:List MemPlace}
  (hW:DataW.Whole enc P f.params.toList s.vars apart W args.toList ds gs before)
  (hres:∀ (b:Nat) (sp:Nat→Bool) (hd:Bool),DataW.TrodAll enc P W' b sp hd f.resultTypes.toList (v.resultList f.resultTypes.size) (s.fn H (ds++gs)).results [])
  (hargs:∀ sp:Nat→Bool,(∀ p∈before,sp p.block=true)→DataW.TrodAll enc P W' 0 sp true f.params.toList args.toList (s.fn H (ds++gs)).args pa)
  (hvars:∀ sp:Nat→Bool,(∀ p∈before,sp p.block=true)→DataW.TrodVars enc P W' sp s.vars (s.fn H (ds++gs)).vars pv)
  (hps:before=pa++pv) (hb:Below W.heap.size W W')
  (hok:∀ (j:Nat) (t:TypeId) (r:Value),f.resultTypes[j]? = some t→(v.resultList f.resultTypes.size)[j]? = some r→Value.okWide P W' .any 0 t r) :
  s.post enc P f apart fresh handsOn again W args v W':=by
 have hlt:∀ p∈before,p.block<W.heap.size:=fun p hp=>hW.lt p hp;have hold:∀ p∈before,(fun b=>decide (b<W.heap.size)) p.block=true:=fun p hp=>by grind
 refine⟨ds,gs,before,[],pa,pv,hW,hres _ _ _,hargs _ hold,hvars _ hold,World.keptBut_mono (fun p hp=>⟨hp,?_⟩) (hb.frame (·∈before)),fun _ => ?_⟩
 grind
 ·obtain⟨_,_,_,_,_,hz,hn⟩:=hW;refine⟨hok,_,_,([]++pa)++pv,⟨[]++pa,pv,trodAll_append (hargs _ (fun _ _=>rfl)) (hres _ _ _),hvars _ (fun _ _=>rfl),rfl,?_,?_⟩,?_⟩;intro b off hp;have hin:MemPlace.cell b off∈before:=by grind
  rw[hb.frozen (hlt _ hin)];exact hz b off hin;all_goals grind
theorem OI{t:TypeId}(hl:laidOutB P=true)(hr:P.readableRec t=true)(hrow:t<P.types.size){W W':World}{v:Value}{d:DataW H}{ps:List MemPlace}
  (h:DataW.Trod enc P W 0 (fun _=>true) true t v d ps) (hb:Below W.heap.size W W') (hlt:∀ x∈ps,x.block<W.heap.size) {sp:Nat→Bool} (hs:∀ x∈ps,sp x.block=true) :
  DataW.Trod enc P W' 0 sp true t v d ps:=
 WideElems.Trod_stays hl hr hrow h (fun x hx=>hb.same (hlt x hx)) hs
end
end Go.Pev
end
section
section
namespace Go.Pev.Pl
open Tok
theorem HX{a b:Nat}(hb:0<b):rem? (a:Int) (b:Int)=some ((a % b:Nat):Int):=by rw[XR,yU,AXo (by omega)];rfl
theorem Kw{a b:Nat}(h:a<2*b):a % b=if a<b then a else a-b:=by split;exact AYW (by assumption);rw[AaA (by omega),AYW (by omega)]
def Kj(n t u:Int):Bool:=match Cu n t with
 |some x=>decide (x.st=u)
 |none=>false
theorem NR{l:List Int}{j:Nat}(hj:j≤l.length):(rot l j).length=l.length:=by simp[rot];omega
theorem Ge{l:List Int}{j k:Nat}(hj:j<l.length)(hk:k<l.length):(rot l j).getD k 0=l.getD ((j+k) % l.length) 0:=by rw[Kw (by omega),rot];by_cases h:j+k<l.length;rw[AXp h,AXe,AYu (by simp;omega),AZ8,AXe];rw[AXo h,AXe,AYF (by simp;omega),List.getElem?_take_of_lt (by simp;omega),AXe];congr 2;simp;omega
def Red(n:Int)(l l':List Int):Prop:=∃ j x u v rest,j<l.length∧rot l j=x::EP n (.arc u v)::v::EP n (.arc v u)::rest∧okT n (.arc u v)∧Kj n x u=true∧l'=rest++[x]
def GA(l:List Int)(i:Nat):List Int:=(List.range' 3 (l.length-3)).map fun k=>l.getD ((i+k) % l.length) 0
theorem AHy{l:List Int}{i j:Nat}(hl:4≤l.length)(hj:j<l.length)(hij:i=if j+1=l.length then 0 else j+1):GA l i=(rot l j).drop 4++[(rot l j).getD 0 0]:=by
 apply List.ext_getElem;simp[GA,NR (AYw hj)];omega
 ·intro m h1 h2;simp only[GA,AYU,List.length_range']at h1;simp only[GA,List.getElem_map,List.getElem_range',AZa];have hi:i<l.length:=by rw[hij];split<;>omega
  by_cases hm:m<l.length-4;·rw[List.getElem_append_left (by simp[NR (AYw hj)];omega),List.getElem_drop];have:=Ge (l:=l) (j:=j) (k:=4+m) hj (by omega);rw[AXe,AXj (by rw[NR (AYw hj)];omega),AX5]at this;rw[this];congr 1;rw[Kw (by omega),Kw (by omega),hij];(repeat' split)<;>omega
  ·rw[List.getElem_append_right (by simp[NR (AYw hj)];omega)];simp only[List.getElem_singleton];rw[Ge hj (by omega)];congr 1;rw[Kw (by omega),Kw (by omega),hij];(repeat' split)<;>omega
theorem AWy{α:Type}{l:List α}(z:α)(h:4≤l.length):l=l.getD 0 z::l.getD 1 z::l.getD 2 z::l.getD 3 z::l.drop 4:=by
 match l,h with
 |a::b::c::d::r,_=>rfl
def K5(n:Int)(l:List Int)(i:Nat):Bool:=
 decide (4≤l.length)&&match Cu n (l.getD i 0)with
  |some (.arc u v)=>decide (l.getD ((i+1) % l.length) 0=v)&&(decide (l.getD ((i+2) % l.length) 0=En n v u)&&Kj n (l.getD ((i+l.length-1) % l.length) 0) u)
  |_=>false
theorem FT{n u v:Int}(h:okT n (.arc u v)):okT n (.arc v u):=⟨h.2.1,h.1,AYm h.2.2⟩
theorem AAL{n:Int}{l:List Int}{i:Nat}(hi:i<l.length)(h:K5 n l i=true):Red n l (GA l i):=by
 rw[K5,AXd,AXc]at h;obtain⟨hl,h⟩:=h;cases ht:Cu n (l.getD i 0)with
  |none=>rw[ht]at h;cases h
  |some t=>
   rw[ht]at h;cases t with
    |ver v=>cases h
    |arc u v=>
     simp only[AXd,AXc]at h;obtain⟨h1,h2,h3⟩:=h;obtain⟨g1,g2⟩:=Sh ht;let j:=if i=0 then l.length-1 else i-1
     have hj:j<l.length:=by simp only[j];split<;>omega
     have hij:i=if j+1=l.length then 0 else j+1:=by simp only[j];(repeat' split)<;>omega
     have m0:(i+l.length-1) % l.length=(j+0) % l.length:=by rw[Kw (by omega),Kw (by omega)];simp only[j];(repeat' split)<;>omega
     have m1:i=(j+1) % l.length:=by rw[Kw (by omega)];simp only[j];(repeat' split)<;>omega
     have m2:(i+1) % l.length=(j+2) % l.length:=by rw[Kw (by omega),Kw (by omega)];simp only[j];(repeat' split)<;>omega
     have m3:(i+2) % l.length=(j+3) % l.length:=by rw[Kw (by omega),Kw (by omega)];simp only[j];(repeat' split)<;>omega
     have hlr:4≤(rot l j).length:=by rw[NR (AYw hj)];exact hl
     have e:=AWy (0:Int) hlr;have r0:=Ge (l:=l) (k:=0) hj (by omega);have r1:=Ge (l:=l) (k:=1) hj (by omega);have r2:=Ge (l:=l) (k:=2) hj (by omega);have r3:=Ge (l:=l) (k:=3) hj (by omega);rw[← m0]at r0;rw[← m1]at r1;rw[← m2,h1]at r2;rw[← m3,h2,Fl (FT g1)]at r3;refine⟨j,(rot l j).getD 0 0,u,v,(rot l j).drop 4,hj,?_,g1,by rw[r0];exact h3,AHy hl hj hij⟩;rw[r1,r2,r3,← g2]at e;exact e
theorem yY{n:Int}{l l':List Int}(h:Red n l l'):∃ i,i<l.length∧K5 n l i=true:=by
 obtain⟨j,x,u,v,rest,hj,hr,hok,hst,_⟩:=h;have hl:4≤l.length:=by have:=AYh List.length hr;rw[NR (AYw hj)]at this;simp only[AXg]at this;omega
 let i:=if j+1=l.length then 0 else j+1
 have hi:i<l.length:=by simp only[i];split<;>omega
 have m0:(i+l.length-1) % l.length=(j+0) % l.length:=by rw[Kw (by omega),Kw (by omega)];simp only[i];(repeat' split)<;>omega
 have m1:i=(j+1) % l.length:=by rw[Kw (by omega)];simp only[i];(repeat' split)<;>omega
 have m2:(i+1) % l.length=(j+2) % l.length:=by rw[Kw (by omega),Kw (by omega)];simp only[i];(repeat' split)<;>omega
 have m3:(i+2) % l.length=(j+3) % l.length:=by rw[Kw (by omega),Kw (by omega)];simp only[i];(repeat' split)<;>omega
 have r0:=Ge (l:=l) (k:=0) hj (by omega);have r1:=Ge (l:=l) (k:=1) hj (by omega);have r2:=Ge (l:=l) (k:=2) hj (by omega);have r3:=Ge (l:=l) (k:=3) hj (by omega);rw[hr]at r0 r1 r2 r3;rw[← m0]at r0;rw[← m1]at r1;rw[← m2]at r2;rw[← m3]at r3;simp only[List.getD_cons_zero,List.getD_cons_succ]at r0 r1 r2 r3;refine⟨i,hi,?_⟩;rw[K5,← r1,EY hok];simp only[← r0,← r2,← r3,hst,Fl (FT hok),hl,AXi,AYb]
theorem AVS{n:Int}{l l':List Int}(h:Red n l l')(hn:l.Nodup):TI n l↔TI n l':=by
 obtain⟨j,x,u,v,rest,hj,hr,hok,hst,rfl⟩:=h;obtain⟨X,hX,hXs⟩:∃ X,Cu n x=some X∧X.st=u:=by
  rw[Kj]at hst;cases hx:Cu n x with
   |none=>rw[hx]at hst;cases hst
   |some X=>rw[hx]at hst;exact⟨X,rfl,by simpa using hst⟩
 obtain⟨hX1,hX2⟩:=Sh hX;have hnr:(rot l j).Nodup:=by rw[rot];exact(List.perm_append_comm.nodup_iff).2 (by rw[AYK];exact hn)
 rw[hr]at hnr;constructor;rintro⟨L,h1,h2,h3⟩;have hL:rot l j=(L.drop j++L.take j).map (EP n):=by rw[rot,h1];simp
 have hTr:T (L.drop j++L.take j):=T.rot (L.take j) (L.drop j) (by rw[AYK];exact h3);have hok2:∀ t∈L.drop j++L.take j,okT n t:=fun t ht=>h2 t (by rw[← AYK j L];simp only[AXq]at ht ⊢;exact ht.symm)
 generalize L.drop j++L.take j=M at *;rw[hr]at hL;match M,hL with
 |[_,_],hL=>simp at hL
 |[_,_,_],hL=>simp at hL
 |a::b::c::d::r,hL=>
  simp only[AX4,AXz]at hL
  obtain⟨e1,e2,e3,e4,e5⟩:=hL
  have q1:X=a:=Gi hX1 (hok2 a (by simp)) (by rw[hX2,e1])
  have q2:Tok.arc u v=b:=Gi hok (hok2 b (by simp)) e2
  have q3:Tok.ver v=c:=Gi (show okT n (.ver v)from hok.2.1) (hok2 c (by simp)) e3
  have q4:Tok.arc v u=d:=Gi (FT hok) (hok2 d (by simp)) e4
  subst q1 q2 q3 q4
  subst hXs
  have:=T.less hTr
  refine⟨r++[X],by simp[e5,hX2],fun t ht=>hok2 t ?_,T.rot [X] r this⟩
  simp only[AXq,AYB]at ht
  rcases ht with h|h<;>simp[h]
 rintro⟨K,k1,k2,k3⟩;obtain⟨K1,K2,rfl,e1,e2⟩:=AaM.1 k1.symm;obtain⟨X',K3,rfl,e3,e4⟩:=List.map_eq_cons_iff.1 e2;rw[List.map_eq_nil_iff]at e4;subst e4;have q1:X'=X:=Gi (k2 X' (by simp)) hX1 (by rw[hX2,e3]);subst q1;have t1:T (X'::K1):=T.rot K1 [X'] k3;subst hXs;have hvm:∀ t,t∈X'::K1→okT n t:=fun t ht=>k2 t (by simp only[AXf,AXq,AYB]at ht ⊢;rcases ht with h|h<;>simp[h])
 have hnv:Tok.ver v∉X'::K1:=by
  intro hm;have hvl:v=x∨v∈rest:=by rcases AXf.1 hm with h|h;left;rw[← hX2,← h];rfl;right;rw[← e1];exact AYE.2 ⟨_,h,rfl⟩
  simp only[AX8,AXf,not_or]at hnr;rcases hvl with h|h;exact hnr.1.2.1 h.symm;exact hnr.2.2.1.2 h
 have t2:=T.add X' K1 v t1 hok.2.2 hnv;have hmap:rot l j=(X' :: .arc X'.st v :: .ver v :: .arc v X'.st::K1).map (EP n):=by rw[hr];simp only[AX4,hX2,e1];rfl
 have hok3:∀ t∈X'::Tok.arc X'.st v :: .ver v :: .arc v X'.st::K1,okT n t:=by intro t ht;simp only[AXf]at ht;rcases ht with rfl|rfl|rfl|rfl|h;exact hX1;exact hok;exact hok.2.1;exact FT hok;exact hvm t (AXx _ h)
 generalize X'::Tok.arc X'.st v :: .ver v :: .arc v X'.st::K1=M at *;rw[rot]at hmap;obtain⟨M1,M2,rfl,f1,f2⟩:=AaM.1 hmap.symm;refine⟨M2++M1,by rw[AZO,f1,f2,AYK],fun t ht=>hok3 t ?_,T.rot M1 M2 t2⟩;simp only[AXq]at ht ⊢;exact ht.symm
theorem AWe{n:Int}{l:List Int}(h:TI n l)(hl:1<l.length):∃ l',Red n l l':=by
 obtain⟨L,h1,h2,h3⟩:=h;rcases h3.leaf with⟨v,e⟩|⟨x,v,r,p,q,e1,e2⟩
 rw[h1,e]at hl;simp at hl;have hmap:l.map id=(p++q).map (EP n):=by rw[List.map_id,h1,e1]
 rw[List.map_id]at hmap;have hok:∀ t∈q++p,okT n t:=fun t ht=>h2 t (by rw[e1];simp only[AXq]at ht ⊢;exact ht.symm);have key:∀ j,j<l.length→rot l j=(q++p).map (EP n)→∃ l',Red n l l':=by intro j hj hrj;rw[← e2]at hok;rw[← e2]at hrj;have ha:okT n (.arc x.st v):=hok _ (by simp);exact⟨_,j,EP n x,x.st,v,r.map (EP n),hj,by rw[hrj];rfl,ha,by rw[Kj,EY (hok x (by simp))];simp,rfl⟩
 by_cases hq:q=[]
 subst hq;refine key 0 (by omega) ?_;simp[rot,hmap];have hj:p.length<l.length:=by rw[hmap,AYU,AXn];have:=List.length_pos_iff.2 hq;omega
 refine key p.length hj ?_;rw[rot,hmap,AZO];rw[List.drop_left' (by simp),AZ7 (by simp),AZO]
end Go.Pev.Pl
end
section
namespace Go.Pev.Pl
open Tok
theorem yQ{l:List Int}{i:Nat}(hi:i<l.length):∀ x∈GA l i,x∈l:=by intro x hx;simp only[GA,AYE]at hx;obtain⟨k,_,rfl⟩:=hx;have hk:(i+k) % l.length<l.length:=AZE _ (by omega);rw[AXe,AXj hk,AX5];exact AYp hk
theorem AHz{n:Int}{l l':List Int}(h:Red n l l')(hn:l.Nodup):l'.Nodup:=by
 obtain⟨j,x,u,v,rest,hj,hr,hok,hst,rfl⟩:=h;have hnr:(rot l j).Nodup:=by rw[rot];exact(List.perm_append_comm.nodup_iff).2 (by rw[AYK];exact hn)
 rw[hr]at hnr;have:(x::rest).Nodup:=by simp only[AX8,AXf,not_or]at hnr ⊢;exact⟨hnr.1.2.2.2,hnr.2.2.2.2⟩
 exact(AZQ (l₁:=[x]) (l₂:=rest)).nodup_iff.1 this
theorem ARC(n t:Int):TI n [t]↔In n t:=by
 constructor;rintro⟨L,h1,h2,h3⟩;rcases h3.leaf with⟨v,e⟩|⟨x,v,r,hr⟩
 subst e;simp only[AX4,AZc,AXz,AZv]at h1;rw[h1];exact h2 (.ver v) (by simp);have h4:=hr.length;have h5:=AYh List.length h1;simp only[AXg,AXs,AYU]at h4 h5;omega;intro h;exact⟨[.ver t],rfl,fun x hx=>by simp at hx;subst hx;exact h,T.one t⟩
theorem ARD(n:Int):¬ TI n []:=by
 rintro⟨L,h1,h2,h3⟩;have:=h3.facts.1;cases L with
  |nil=>exact this rfl
  |cons t L=>cases h1
end Go.Pev.Pl
end
section
namespace Go.Pev.Pl
open Tok
def RG(n:Int)(xs:List Int):Prop:=Rt xs∧xs≠[]∧Gz xs=xs.headD 0∧TI n xs
def okR(n:Int):List Int→Int→List (List Int)→Prop
 |_,_,[]=>True
 |seen,last,l::ls=>RG n l∧last<l.headD 0∧(∀ t∈l,t<n→t∉seen)∧okR n (seen++l.filter (fun t=>decide (t<n))) (l.headD 0) ls
def RF(n:Int)(rings:List (List Int)):Prop:=Sz n∧okR n [] (-1) rings∧∀ v,0≤v→v<n→v∈rings.flatten
noncomputable instance (n:Int) (rings:List (List Int)):Decidable (RF n rings):=Classical.propDecidable _
noncomputable instance (n:Int) (xs:List Int):Decidable (RG n xs):=Classical.propDecidable _
def MI(n:Int)(met:List (Int×Int))(seen:List Int):Prop:=∀ t,t<n→(BA met t).getD (0:Int)=if t∈seen then 1 else 0
theorem iV(n:Int)(l:List Int)(hl:l.length<1073741824)(d1:List (List Int))(d3:Int)(d4:List (List Int))(d5 d6:Int)(d7:List Int)(d8 d9:Int)(d10:Bool)(d11:List Int)(d12 d13:Bool)(d14:List Int)(d15:Int)(d16:List Int)(d17:Int)(d18:Bool)(d19:Int)(d20:List Int)(d21 d22:Bool):
  ∀ (m k cnt:Nat) (met:List (Int×Int)) (seen:List Int),k+m=l.length→MI n met seen→(l.drop k).Nodup→m<cnt →
  ((∀ t∈l.drop k,t<n→t∉seen)∧∃ met',BE Fy cnt (n,d1,met,d3,d4,d5,d6,d7,d8,d9,d10,d11,d12,d13,d14,d15,d16,d17,d18,d19,d20,d21,d22,l,(l.length:Int),(k:Int),()) =
    some (.inr (.inl (n,d1,met',d3,d4,d5,d6,d7,d8,d9,d10,d11,d12,d13,d14,d15,d16,d17,d18,d19,d20,d21,d22,())))∧MI n met' (seen++(l.drop k).filter (fun t=>decide (t<n)))) ∨
  (¬ (∀ t∈l.drop k,t<n→t∉seen)∧BE Fy cnt (n,d1,met,d3,d4,d5,d6,d7,d8,d9,d10,d11,d12,d13,d14,d15,d16,d17,d18,d19,d20,d21,d22,l,(l.length:Int),(k:Int),())=some (.inl (false,()))):=by
 intro m;induction m with
  |zero=>
   intro k cnt met seen hk hm hn hc;obtain⟨cnt,rfl⟩:∃ c,cnt=c+1:=⟨cnt-1,by omega⟩
   have e:l.drop k=[]:=AYa (by omega);rw[e];refine .inl ⟨by simp,met,?_,by simpa using hm⟩;rw[BE,Fy,A_,AXZ (by omega)]
  |succ m ih=>
   intro k cnt met seen hk hm hn hc;obtain⟨cnt,rfl⟩:∃ c,cnt=c+1:=⟨cnt-1,by omega⟩
   have hk':k<l.length:=by omega
   have e:l.drop k=l.getD k 0::l.drop (k+1):=by rw[AYH hk',AXe,AXj hk',AX5]
   rw[BE,Fy,A_,AXb hk'];simp only[Es (0:Int) hk'];rw[e]at hn ⊢;generalize l.getD k 0=t at *;rw[AX8]at hn;rw[A' (by omega),BM];by_cases ht:t<n;rw[AXb ht];have hmt:=hm t ht;simp only[hmt,BM];by_cases hs:t∈seen;rw[AXp hs,AXb (by omega)];exact .inr ⟨fun h=>h t (by simp) ht hs,rfl⟩;rw[AXo hs,AXZ (by omega)];simp only[];have w1:w64 ((0:Int)+1)=1:=by rw[BR (by omega)];rfl
   rw[w1];have hm':MI n (BP met t 1) (seen++[t]):=by intro y hy;rw[Ha];by_cases e2:y=t;simp[e2];simp only[e2,AXv,AXq,AYB,AZx];exact hm y hy
   have hiff:(∀ y∈t::l.drop (k+1),y<n→y∉seen)↔∀ y∈l.drop (k+1),y<n→y∉seen++[t]:=by constructor;intro h y hy hyn hm2;simp only[AXq,AYB]at hm2;rcases hm2 with h2|rfl;exact h y (AXx _ hy) hyn h2;exact hn.1 hy;intro h y hy hyn hm2;rcases AXf.1 hy with rfl|hy;exact hs hm2;exact h y hy hyn (by simp[hm2])
   rcases ih (k+1) cnt _ _ (by omega) hm' hn.2 (by omega)with⟨q1,met',q2,q3⟩|⟨q1,q2⟩
   refine .inl ⟨hiff.2 q1,met',q2,?_⟩;rw[AaG (by simpa using ht)];simpa using q3;exact .inr ⟨fun h=>q1 (hiff.1 h),q2⟩;rw[AXZ ht];simp only[];have hm':MI n (BP met t (w64 (((BA met t).getD (0:Int))+(1:Int)))) seen:=by intro y hy;rw[Ha,AXo (by omega)];exact hm y hy
   have hiff:(∀ y∈t::l.drop (k+1),y<n→y∉seen)↔∀ y∈l.drop (k+1),y<n→y∉seen:=by constructor;intro h y hy;exact h y (AXx _ hy);intro h y hy hyn;rcases AXf.1 hy with rfl|hy;exact absurd hyn ht;exact h y hy hyn
   rcases ih (k+1) cnt _ _ (by omega) hm' hn.2 (by omega)with⟨q1,met',q2,q3⟩|⟨q1,q2⟩
   refine .inl ⟨hiff.2 q1,met',q2,?_⟩;rw[AaH (by simpa using ht)];exact q3;exact .inr ⟨fun h=>q1 (hiff.1 h),q2⟩
theorem Wk(n:Int)(rings:List (List Int))(hlen:rings.length<1073741824)(hr:∀ l∈rings,l.length<9223372036854775808∧∀ x∈l, -9223372036854775808≤x∧x≤9223372036854775807):
  ∀ (ls:List (List Int)) (i cnt:Nat) (met:List (Int×Int)) (last:Int) (seen:List Int),rings.drop i=ls→i≤rings.length→MI n met seen→ls.length<cnt →
  (okR n seen last ls∧∃ met' seen',BE Fz cnt (n,rings,met,last,rings,(rings.length:Int),(i:Int),())=some (.inr (.inl (n,rings,met',())))∧MI n met' seen'∧∀ v,v∈seen'↔v∈seen∨(v<n∧v∈ls.flatten)) ∨
  (¬ okR n seen last ls∧BE Fz cnt (n,rings,met,last,rings,(rings.length:Int),(i:Int),())=some (.inl (false,()))):=by
 have hmany:4294967296<many:=by simp only[many];omega
 intro ls;induction ls with
  |nil=>
   intro i cnt met last seen hd hi hm hc;obtain⟨cnt,rfl⟩:∃ c,cnt=c+1:=⟨cnt-1,by simp at hc;omega⟩
   have:rings.length≤i:=by simpa using hd
   refine .inl ⟨trivial,met,seen,?_,hm,by simp⟩;rw[BE,Fz,A_,AXZ (by omega)]
  |cons l ls ih=>
   intro i cnt met last seen hd hi hm hc;simp only[AXg]at hc;obtain⟨cnt,rfl⟩:∃ c,cnt=c+1:=⟨cnt-1,by omega⟩
   have hi':i<rings.length:=by refine AYV fun h => ?_;rw[AYa (by omega)]at hd;cases hd
   rw[AYH hi']at hd;simp only[AXz]at hd;obtain⟨hd1,hd2⟩:=hd;have hx:rings[i]? = some l:=by rw[AXj hi',hd1]
   have hmem:l∈rings:=AXk hx;obtain⟨hl,hlr⟩:=hr l hmem;rw[BE,Fz,A_,AXb hi',okR];simp only[BK hx,Be];cases l with
    |nil=>rw[A8,AXb (by simp)];exact .inr ⟨fun h=>h.1.2.1 rfl,rfl⟩
    |cons x tl=>
     rw[A8,AXZ (by simp only[AXg];omega)];have i0:idx (x::tl) (0:Int)=some x:=by rw[G2];rfl
     simp only[i0,AZn,BZ];by_cases c1:x≤last;rw[AXb c1];exact .inr ⟨fun h=>by omega,rfl⟩;rw[AXZ c1];simp only[Km];by_cases c2:Rt (x::tl);rw[AXb c2];have hl:(x::tl).length<1073741824:=by have:=c2.1;omega
     simp only[AXh,rJ (x::tl) (by simp) (by omega)];by_cases c3:Gz (x::tl)=x;rw[AXb c3];simp only[AXh];rw[APh n (x::tl) (by simp) (by omega) hlr c2.2.2 (fun y hy=>by simp at hy;rw[← hy];exact c3)];by_cases c4:TI n (x::tl);rw[AXb c4];simp only[AXh,Bf];have hRG:RG n (x::tl):=⟨c2,by simp,c3,c4⟩
     rcases iV n (x::tl) hl rings x rings (rings.length:Int) (i:Int) (x::tl) x last false (x::tl) true false (x::tl) (Gz (x::tl)) (x::tl) x false n (x::tl) true false (x::tl).length 0 many met seen (by omega) hm (by rw[AZI];exact c2.2.2) (by omega)with⟨q1,met',q2,q3⟩|⟨q1,q2⟩
     rw[AZI]at q1 q3;have q2':BE Fy many (n,rings,met,x,rings,(rings.length:Int),(i:Int),x::tl,x,last,false,x::tl,true,false,x::tl,Gz (x::tl),x::tl,x,false,n,x::tl,true,false,x::tl,((x::tl).length:Int),(0:Int),())=_:=q2;simp only[q2',A' (show i+1<9223372036854775808 by omega)];rcases ih (i+1) cnt met' x (seen++(x::tl).filter (fun t=>decide (t<n))) hd2 (by omega) q3 (by omega)with⟨p1,met2,seen2,p2,p3,p4⟩|⟨p1,p2⟩
     refine .inl ⟨⟨hRG,by omega,q1,p1⟩,met2,seen2,p2,p3,fun v => ?_⟩;rw[p4,AXq,AY6,AYi,AXq];simp only[AXc];constructor;rintro ((h|h)|h);exact .inl h;exact .inr ⟨h.2,.inl h.1⟩;exact .inr ⟨h.1,.inr h.2⟩;rintro (h|⟨h,h2|h2⟩);exact .inl (.inl h);exact .inl (.inr ⟨h2,h⟩);exact .inr ⟨h,h2⟩;exact .inr ⟨fun h=>p1 h.2.2.2,p2⟩;rw[AZI]at q1;have q2':BE Fy many (n,rings,met,x,rings,(rings.length:Int),(i:Int),x::tl,x,last,false,x::tl,true,false,x::tl,Gz (x::tl),x::tl,x,false,n,x::tl,true,false,x::tl,((x::tl).length:Int),(0:Int),())=_:=q2;simp only[q2'];exact .inr ⟨fun h=>q1 h.2.2.1,by trivial⟩;rw[AXZ c4];exact .inr ⟨fun h=>c4 h.1.2.2.2,rfl⟩;rw[AXZ c3];exact .inr ⟨fun h=>c3 h.1.2.2.1,rfl⟩;rw[AXZ c2];exact .inr ⟨fun h=>c2 h.1.1,rfl⟩
theorem Wj(n:Int)(rings:List (List Int))(hlen:rings.length<1073741824)(hr:∀ l∈rings,l.length<9223372036854775808∧∀ x∈l, -9223372036854775808≤x∧x≤9223372036854775807):
  OJ ((n,(rings,())),())=some (decide (RF n rings),()):=by
 have hmany:4294967296<many:=by simp only[many];omega
 rw[cQ,Wl];simp only[Kf];by_cases hS:Sz n;rw[AXb hS];simp only[AXh,Bf,A8];rcases Wk n rings hlen hr rings 0 many [] (-1) [] (by simp) (by omega) (fun t _=>by simp[BA]) (by omega)with⟨p1,met,seen,p2,p3,p4⟩|⟨p1,p2⟩
 have p2':BE Fz many (n,rings,[], -1,rings,(rings.length:Int),(0:Int),())=_:=p2;simp only[p2'];obtain⟨s1,s2⟩:=hS;obtain⟨N,rfl⟩:=AXr (show 0≤n by omega)
 have e:=ow (step:=Hl) (fun i=>(met,(N:Int),(i:Int),())) N (fun i=>decide ((i:Int)∉seen)) (fun _=>.inl (false,())) (.inr (.inl ())) (by omega)
  (fun i hi=>by
   have:=p3 (i:Int) (by omega)
   rw[Hl,A_,AXb hi]
   simp only[this,Be]
   by_cases h:(i:Int)∈seen
   ·simp only[h,AX9,not_true]
    rw[A' (by omega)];simp
   ·simp[h])
  (by rw[Hl,A_,AXZ (by omega)])
 rw[Bf]at e;have hv:∀ v,v∈seen↔(v<(N:Int)∧v∈rings.flatten):=fun v=>by rw[p4];simp
 rcases e with⟨k,k1,k2,_,k4⟩|⟨k1,k4⟩
 have k4':BE Hl many (met,(N:Int),(0:Int),())=_:=k4;rw[k4',AXZ];rintro⟨_,_,h⟩;simp only[AXc]at k2;exact k2 ((hv _).2 ⟨by omega,h (k:Int) (by omega) (by omega)⟩);have k4':BE Hl many (met,(N:Int),(0:Int),())=_:=k4;rw[k4',AXb];refine⟨⟨s1,s2⟩,p1,fun v v1 v2 => ?_⟩;obtain⟨k,rfl⟩:=AXr v1;have:=k1 k (by omega);simp only[AYM,AaI]at this;exact((hv _).1 this).2;have p2':BE Fz many (n,rings,[], -1,rings,(rings.length:Int),(0:Int),())=_:=p2;simp only[p2'];rw[AXZ (fun h=>p1 h.2.1)];rw[AXZ hS,AXZ (fun h=>hS h.1)];rfl
end Go.Pev.Pl
end
section
namespace Go.Pev.Pl
open Tok
def MB(N:Nat)(met:List Bool)(seen:List Int):Prop:=met.length=N∧∀ k,k<N→met.getD k false=decide ((k:Int)∈seen)
theorem yj{xs:List Int}(hr:Rt xs)(h:xs≠[]):plain xs=xs↔Gz xs=xs.headD 0:=by
 obtain⟨a,b,h1,h2⟩:=IK hr h;constructor
 ·intro e;rw[e]at h2;rw[h2];have:Gz xs=Gz xs:=rfl;conv=>lhs;rw[← h2]
  rfl
 intro e;cases a with
  |nil=>rw[h2,AYf];exact h1.symm
  |cons y a=>
   exfalso;have hn:=hr.2.2;have hy:y=Gz xs:=by rw[e,h1];rfl
   rw[h1,AX3,AX8]at hn;exact hn.1 (by rw[← hy];simp)
theorem AIn{n:Int}:∀ {ls:List (List Int)} {seen:List Int} {last:Int},okR n seen last ls→seen.Nodup→(seen++ls.flatten.filter (fun t=>decide (t<n))).Nodup∧∀ l∈ls,RG n l:=by
 intro ls;induction ls with
  |nil=>intro seen last _ h;simpa using h
  |cons l ls ih=>
   intro seen last ⟨h1,h2,h3,h4⟩ hs;obtain⟨g1,g2⟩:=ih h4 (by rw[AZU];refine⟨hs,(h1.1.2.2).filter _,fun a ha b hb => ?_⟩;rintro rfl;simp only[AY6,AXc]at hb;exact h3 a hb.1 hb.2 ha)
   refine⟨by rw[AYi,AZl,← AZF];exact g1,fun k hk => ?_⟩;rcases AXf.1 hk with rfl|hk;exact h1;exact g2 k hk
theorem Nj{n:Int}{l:List Int}(h:RG n l):In n (l.headD 0):=by
 obtain⟨h1,h2,h3,h4⟩:=h;cases l with
  |nil=>exact absurd rfl h2
  |cons x l=>exact AFd h4 h3
theorem AEF{n:Int}(hn:1≤n):∀ {ls:List (List Int)} {seen:List Int} {last:Int},okR n seen last ls→-1≤last→last<n→(ls.length:Int)≤n-1-last:=by
 intro ls;induction ls with
  |nil=>intro seen last _ _ h;simp;omega
  |cons l ls ih=>intro seen last ⟨h1,h2,h3,h4⟩ hl hl2;have hh:=(Nj h1).2.2;have:=ih h4 (by omega) hh.2;simp only[AXg];omega
end Go.Pev.Pl
end
section
namespace Go.Pev.Pl
open Tok
def hd(l:List Int):Int:=l.headD 0
def Dis(n:Int)(a b:List Int):Prop:=∀ t∈a,t<n→t∉b
structure FR(n:Int)(rings:List (List Int)):Prop where
 sz:Sz n
 rg:∀ l∈rings,RG n l
 up:rings.Pairwise (fun a b=>hd a<hd b)
 dis:rings.Pairwise (Dis n)
 cov:∀ v,In n v→∃ l∈rings,v∈l
theorem Dis.symm{n:Int}{a b:List Int}(h:Dis n a b):Dis n b a:=fun t ht hn ha=>h t ha hn ht
theorem AEG{n:Int}:∀ {ls:List (List Int)} {seen:List Int} {last:Int},okR n seen last ls↔(∀ l∈ls,RG n l∧last<hd l∧∀ t∈l,t<n→t∉seen)∧ls.Pairwise (fun a b=>hd a<hd b)∧ls.Pairwise (Dis n):=by
 intro ls;induction ls with
  |nil=>intro seen last;simp[okR]
  |cons l ls ih=>intro seen last;rw[okR,ih,AYP,AYP];constructor;rintro⟨h1,h2,h3,h4,h5,h6⟩;refine⟨fun k hk => ?_,⟨fun k hk=>(h4 k hk).2.1,h5⟩,⟨fun k hk t ht htn htk => ?_,h6⟩⟩;rcases AXf.1 hk with rfl|hk;exact⟨h1,h2,h3⟩;obtain⟨q1,q2,q3⟩:=h4 k hk;exact⟨q1,Int.lt_trans h2 q2,fun t ht htn hts=>q3 t ht htn (by simp[hts])⟩;exact(h4 k hk).2.2 t htk htn (by simp[ht,htn]);rintro⟨h1,⟨h2,h3⟩,⟨h4,h5⟩⟩;obtain⟨q1,q2,q3⟩:=h1 l (by simp);refine⟨q1,q2,q3,fun k hk => ?_,h3,h5⟩;obtain⟨p1,p2,p3⟩:=h1 k (by simp[hk]);refine⟨p1,h2 k hk,fun t ht htn hts => ?_⟩;simp only[AXq,AY6]at hts;rcases hts with h|h;exact p3 t ht htn h;exact h4 k hk t h.1 htn ht
theorem M0{n:Int}{rings:List (List Int)}:RF n rings↔FR n rings:=by constructor;rintro⟨h1,h2,h3⟩;obtain⟨q1,q2,q3⟩:=AEG.1 h2;refine⟨h1,fun l hl=>(q1 l hl).1,q2,q3,fun v hv => ?_⟩;obtain⟨l,hl,h⟩:=List.mem_flatten.1 (h3 v hv.2.2.1 hv.2.2.2);exact⟨l,hl,h⟩;rintro⟨h1,h2,h3,h4,h5⟩;refine⟨h1,AEG.2 ⟨fun l hl=>⟨h2 l hl,?_,by simp⟩,h3,h4⟩,fun v v1 v2 => ?_⟩;have:=(Nj (h2 l hl)).2.2.1;show(-1:Int)<l.headD 0;omega;obtain⟨l,hl,h⟩:=h5 v ⟨h1.1,h1.2,v1,v2⟩;exact List.mem_flatten.2 ⟨l,hl,h⟩
theorem TD{ys zs:List (List Int)}(hz:zs.Pairwise (fun a b=>hd a<hd b))(hp:ys.Perm zs)(hy:ys.Pairwise (fun a b=>¬ hd b<hd a)):ys=zs:=by
 have hinj:∀ a∈zs,∀ b∈zs,hd a=hd b→a=b:=by intro a ha b hb e;refine AYV fun hne => ?_;obtain⟨i,hi,rfl⟩:=AYs ha;obtain⟨j,hj,rfl⟩:=AYs hb;rw[AZZ]at hz;rcases Nat.lt_trichotomy i j with h|h|h;have:=hz i j hi hj h;omega;subst h;exact hne rfl;have:=hz j i hj hi h;omega
 refine List.Perm.eq_of_pairwise (le:=fun a b=>¬ hd b<hd a) ?_ hy ?_ hp;intro a b ha hb h1 h2;exact hinj a (hp.mem_iff.1 ha) b hb (by omega);exact hz.imp fun h=>by omega
def plc(rings:List (List Int))(v:Int):Int:=if rings.any (fun l=>decide (v∈l))then((rings.findIdx (fun l=>decide (v∈l)):Nat):Int)else -1
theorem Kg(n:Int)(rings:List (List Int))(v:Int)(hlen:rings.length<1073741824)(hr:∀ l∈rings,l.length<9223372036854775808):Rf ((n,(rings,())),v,())=some (plc rings v,()):=by
 rw[cT,Wo,JM,GO]
 have e:=N3 (step:=DL) (fun i=>(v,rings,A4 rings,(i:Int),())) rings (fun l=>decide (v∈l)) (fun i=>.inl (v,(i:Int),())) (.inr (.inl (v,()))) (by omega)
  (fun i l hi hx=>by
   have hl:=hr l (AXk hx)
   rw[DL,A8,A_,AXb hi]
   simp only[BK hx,Jo l v (by omega)]
   rw[A' (by omega)]
   by_cases h:v∈l
   ·rw[AXb h];rfl
   ·rw[AXZ h];rfl)
  (by rw[DL,A8,A_,AXZ (by omega)])
 have e':A9 DL many (v,rings,A4 rings,(0:Int),())=_:=e;simp only[e',plc];cases rings.any (fun l=>decide (v∈l))<;>rfl
theorem OR{rings:List (List Int)}{v:Int}(h:∃ l∈rings,v∈l):∃ k l,plc rings v=((k:Nat):Int)∧rings[k]? = some l∧v∈l∧k<rings.length:=by obtain⟨l,hl,hv⟩:=h;have hany:rings.any (fun l=>decide (v∈l))=true:=AZf.2 ⟨l,hl,by simpa using hv⟩;have hk:rings.findIdx (fun l=>decide (v∈l))<rings.length:=AZK.2 ⟨l,hl,by simpa using hv⟩;refine⟨_,rings[rings.findIdx (fun l=>decide (v∈l))],by rw[plc,AXp hany],by rw[AXj hk],?_,hk⟩;have:=List.findIdx_getElem (xs:=rings) (p:=fun l=>decide (v∈l)) (w:=hk);simpa using this
theorem FR.uniq{n:Int}{rings:List (List Int)}(h:FR n rings){i j:Nat}{a b:List Int}{v:Int}(hi:rings[i]? = some a)(hj:rings[j]? = some b)(hn:v<n)(ha:v∈a)(hb:v∈b):i=j:=by obtain⟨hi1,rfl⟩:=AYJ.1 hi;obtain⟨hj1,rfl⟩:=AYJ.1 hj;have hd:=AZZ.1 h.dis;rcases Nat.lt_trichotomy i j with g|g|g;exact absurd hb (hd i j hi1 hj1 g v ha hn);exact g;exact absurd ha (hd j i hj1 hi1 g v hb hn)
theorem FR.jd{n:Int}{rings:List (List Int)}(h:FR n rings){k:Nat}{a:List Int}{v:Int}(hk:rings[k]? = some a)(hn:v<n)(ha:v∈a):plc rings v=(k:Int):=by obtain⟨j,l,e,hj,hv,_⟩:=OR ⟨a,AXk hk,ha⟩;rw[e,h.uniq hj hk hn hv ha]
theorem Yq{α:Type}{l:List α}{i:Nat}{a:α}(h:l[i]? = some a):l.Perm (a::l.eraseIdx i):=by
 obtain⟨hi,rfl⟩:=AYJ.1 h;rw[List.eraseIdx_eq_take_drop_succ];conv=>lhs;rw[← AYK i l,AYH hi]
 exact List.perm_middle
theorem JW{α:Type}{l:List α}{i j:Nat}{a b:α}(hij:i<j)(hi:l[i]? = some a)(hj:l[j]? = some b):l.Perm (a::b::(l.eraseIdx j).eraseIdx i):=by
 have h1:=Yq hj;have h2:(l.eraseIdx j)[i]? = some a:=by rw[List.getElem?_eraseIdx_of_lt hij,hi]
 exact h1.trans (((Yq h2).cons b).trans (List.Perm.swap a b _))
theorem AIm{n:Int}{t:Tok}(h:okT n t):0≤EP n t∧EP n t≤4160∧EP n t<n*(n+1):=by
 cases t with
  |ver v=>obtain⟨h1,h2,h3,h4⟩:=h;have:n*1≤n*(n+1):=Int.mul_le_mul_of_nonneg_left (by omega) (by omega);simp only[EP];omega
  |arc u v=>
   obtain⟨h1,h2,_⟩:=h;obtain⟨g1,g2,_⟩:=WJ h1 h2;have hb:=GJ (u:=n+1-1) h1.1 h1.2.1 (by have:=h1.1;omega) (by have:=h1.2.1;omega);have e:n*(n+1)=n*(n+1-1)+n:=by rw[show n+1-1=n by omega,AaK,AaL]
   have:=h1.1;have:=h1.2.1;simp only[EP];omega
theorem AV5{n:Int}{t:Tok}(h:okT n t):Sz n:=by
 cases t with
  |ver v=>exact⟨h.1,h.2.1⟩
  |arc u v=>exact⟨h.1.1,h.1.2.1⟩
theorem OG:∀ {L:List Tok},L.Nodup→(Lo L).Nodup
 |[],_=>by simp[Lo]
 |.ver v::L,h=>by rw[AX8]at h;rw[Lo,AX8];exact⟨fun hm=>h.1 (P5.1 hm),OG h.2⟩
 |.arc _ _::L,h=>by rw[AX8]at h;rw[Lo];exact OG h.2
theorem AU4{n:Int}{xs:List Int}(h:TI n xs):Rt xs:=by
 obtain⟨L,rfl,h2,h3⟩:=h;have hn:=h3.nodup;refine⟨?_,fun x hx => ?_,?_⟩;obtain⟨v,r,hr⟩:=h3.tN;have hS:Sz n:=AV5 (h2 (.ver v) ((hr.mem _).2 (by simp)));have hl:=h3.len;have hv:=D6 (a:=Lo L) (b:=(List.range n.toNat).map (fun(k:Nat)=>(k:Int))) (OG hn) fun x hx=>by have:=h2 _ (P5.1 hx);have h5:=this.2.2;rw[AYE];exact⟨x.toNat,by rw[AYS];omega,by omega⟩
 have h6:=hS.2;simp only[AYU,AX1]at hv ⊢;omega;obtain⟨t,ht,rfl⟩:=AYE.1 hx;have:=AIm (h2 t ht);omega;rw[List.Nodup,AZG];exact hn.imp_of_mem fun ha hb hne e=>hne (Gi (h2 _ ha) (h2 _ hb) e)
def ALD(a b:List Int):Prop:=∃ x y,a=x++y∧b=y++x
theorem ALD.perm{a b:List Int}(h:ALD a b):a.Perm b:=by obtain⟨x,y,rfl,rfl⟩:=h;exact AZQ
theorem ARB{n:Int}{a b:List Int}(h:TI n a)(r:ALD a b):TI n b:=by obtain⟨L,h1,h2,h3⟩:=h;obtain⟨x,y,rfl,rfl⟩:=r;obtain⟨L1,L2,rfl,e1,e2⟩:=AaM.1 h1.symm;refine⟨L2++L1,by rw[AZO,e1,e2],fun t ht=>h2 t ?_,T.rot L1 L2 h3⟩;simp only[AXq]at ht ⊢;exact ht.symm
theorem DQ{xs:List Int}{t:Int}(h:t∈xs):ALD xs (Bo xs t):=by obtain⟨a,b,e1,_,e3⟩:=XM h;exact⟨a,t::b,e1,by rw[e3]⟩
theorem AIr{xs ys:List Int}(h:xs.Perm ys)(hne:xs≠[]):Gz ys=Gz xs:=by obtain⟨h1,h2⟩:=FI hne;exact AS9 (h.mem_iff.1 h1) fun x hx=>h2 x (h.mem_iff.2 hx)
theorem yk{xs:List Int}(hr:Rt xs)(hne:xs≠[]):ALD xs (plain xs):=by rw[plain,AXp ⟨hr,hne⟩];exact DQ (FI hne).1
theorem AU3{n:Int}{xs:List Int}(h:TI n xs):xs≠[]:=by rintro rfl;exact ARD n h
theorem ZS{n:Int}{xs:List Int}(h:TI n xs):RG n (plain xs)∧ALD xs (plain xs):=by have hr:=AU4 h;have hne:=AU3 h;have h1:=yk hr hne;have h2:=ARB h h1;refine⟨⟨AU4 h2,AU3 h2,?_,h2⟩,h1⟩;rw[AIr h1.perm hne];obtain⟨a,b,_,e⟩:=IK hr hne;rw[e];rfl
theorem uO{n:Int}{xs:List Int}(h:TI n xs){t:Tok}(ht:okT n t)(hx:EP n t∈xs):∃ a,Bo xs (EP n t)=(t::a).map (EP n)∧T (t::a)∧(∀ y∈t::a,okT n y):=by
 have h1:=ARB h (DQ hx);obtain⟨a,b,e1,e2,e3⟩:=XM hx;obtain⟨L,q1,q2,q3⟩:=h1;rw[e3,AX3]at q1;cases L with
  |nil=>cases q1
  |cons t' L=>simp only[AX4,AXz]at q1;have:=Gi ht (q2 t' (by simp)) q1.1;subst this;exact⟨L,by rw[e3,AX3,AX4,q1.2],q3,q2⟩
end Go.Pev.Pl
end
section
namespace Go.Pev.Pl
open Go.RowKit Tok
theorem G1(a:Int):ieq a a=true:=by rw[D_];simp
def Dom(rings:List (List Int)):Prop:=rings.length<1073741824∧∀ l∈rings,l.length<9223372036854775808∧∀ x∈l, -9223372036854775808≤x∧x≤9223372036854775807
theorem FR.dom{n:Int}{rings:List (List Int)}(h:FR n rings):Dom rings:=by have h1:=M0.2 h;have h2:=AEF h.sz.1 h1.2.1 (by omega) (by have:=h.sz.1;omega);have h3:=h.sz.2;refine⟨by omega,fun l hl => ?_⟩;have:=(h.rg l hl).1;exact⟨by have:=this.1;omega,fun x hx=>by have:=this.2.1 x hx;omega⟩
theorem SY{l:List Int}(h:l≠[]):hd l∈l:=by
 cases l with
  |nil=>exact absurd rfl h
  |cons x l=>simp[hd]
end Go.Pev.Pl
end
section
namespace Go.Pev.Pl
open Tok
noncomputable def uD(n:Int)(rings:List (List Int))(ok:Bool):Int:=if RF n rings then if ok then 0 else 10 else 1
theorem ABB(n:Int)(rings:List (List Int))(xs:List Int)(hs:xs.length<9223372036854775808):Ez (xs,n,rings,())=some (n,rings,xs.any (fun x=>decide (x<0)||decide (n≤x)),()):=by
 rw[Io,Fg,JN,GP]
 have e:=N3 (step:=DM) (fun i=>(n,rings,xs,A4 xs,(i:Int),())) xs (fun x=>decide (x<0)||decide (n≤x)) (fun i=>.inl (n,rings,(i:Int),())) (.inr (.inl (n,rings,()))) hs
  (fun i x hi hx=>by
   rw[DM,A8,A_,AXb hi]
   simp only[BK hx,BM,BZ]
   rw[A' (by omega)]
   by_cases h:x<0
   ·simp[h]
   ·by_cases h2:n≤x
    ·simp[h,h2]
    ·simp[h,h2])
  (by rw[DM,A8,A_,AXZ (by omega)])
 have e':A9 DM many (n,rings,xs,A4 xs,(0:Int),())=_:=e;rw[e'];generalize (xs.any fun x=>decide (x<0)||decide (n≤x))=b;cases b<;>simp[BZ]
theorem ABr{n v:Int}(hS:Sz n):(decide (v<0)||decide (n≤v)) = !decide (In n v):=by
 by_cases h:In n v;obtain⟨_,_,h3,h4⟩:=h;simp[In,hS.1,hS.2,h3,h4];have:v<0∨n≤v:=by refine AYV fun hc=>h ⟨hS.1,hS.2,by omega,by omega⟩
 rcases this with g|g<;>simp[h,g]
theorem Yk(n:Int)(rings:List (List Int))(xs:List Int)(hD:Dom rings)(hs:xs.length<9223372036854775808):MZ ((n,(rings,())),xs,())=some (uD n rings (xs.all fun v=>decide (In n v)),()):=by
 rw[eo,Yl];simp only[Wj n rings hD.1 hD.2,ABB n rings xs hs,uD];by_cases h:RF n rings;have hb:(xs.any fun x=>decide (x<0)||decide (n≤x)) = !(xs.all fun v=>decide (In n v)):=by rw[List.not_all_eq_any_not];congr 1;funext x;exact ABr h.1
 simp only[h,AXi,AXh,hb,AX9];cases xs.all fun v=>decide (In n v)<;>rfl;simp[h]
end Go.Pev.Pl
end
section
namespace Go.Pev.Pl.SG
open Go.Sort
structure SP(α:Type)where
 z:α
 c:α×α×Unit→Option (Int×Unit)
 ok:α→Prop
 okz:α
 Xs:ok okz
 lt:α→α→Bool
 swo:SWO lt
 lE:∀ {x y:α},ok x→ok y→∃ r,c (x,y,())=some (r,())∧ilt r (0:Int)=lt x y
variable {α:Type} {S:SP α}
abbrev EL{α:Type}(S:SP α):={x:α // S.ok x}
instance:Inhabited (EL S):=⟨⟨S.okz,S.Xs⟩⟩
def rep(d:Array (EL S)):List α:=d.toList.map Subtype.val
theorem Bp{d:Array (EL S)}{n:Nat}(h:n<d.size):idx (rep d) (n:Int)=some (d[n]!).val:=by rw[idx_eq,YX,AXo (by omega)];simp[rep,h]
theorem CM{d:Array (EL S)}{n:Nat}{z:α}(h:n<d.size):A7 (rep d) (A3 (n:Int)) z=(d[n]!).val:=by simp[A7,A3,rep,h]
theorem JX{d:Array (EL S)}{n:Nat}{x:(EL S)}:BH (rep d) (A3 (n:Int)) x.val=rep (d.setIfInBounds n x):=by simp[BH,A3,rep,List.map_set]
theorem AFF{d:Array (EL S)}:A4 (rep d)=(d.size:Int):=by simp[A4,rep]
def ltX(x y:(EL S)):Bool:=S.lt x.val y.val
theorem AMC:SWO (ltX (S:=S)):=⟨fun x=>S.swo.irrefl x.val,fun x y z=>S.swo.trans x.val y.val z.val,fun x y z=>S.swo.ntrans x.val y.val z.val⟩
noncomputable def AUD(x y:(EL S)):Int:=match S.c (x.val,y.val,())with
 |some (c,_)=>c
 |none=>0
theorem DK(x y:(EL S)):S.c (x.val,y.val,())=some (AUD x y,()):=by obtain⟨c,e,_⟩:=S.lE x.property y.property;rw[AUD,e]
theorem EA(x y:(EL S)):ilt (AUD x y) (0:Int)=ltX x y:=by obtain⟨c,e,h⟩:=S.lE x.property y.property;rw[AUD,e];exact h
theorem ATY(a b i:Nat):∀ (j:Nat) (d:Array (EL S)) (n:Nat),j<d.size→d.size<4611686018427387904→j<n →
  BE (WE S.z S.c) n ((rep d),(a:Int),(b:Int),(i:Int),(j:Int),())=some (.inl ((rep (insInner ltX a j d)),(a:Int),(b:Int),(i:Int),())):=by
 intro j;induction j with
  |zero=>
   intro d n hj hs hn;obtain⟨n,rfl⟩:∃ k,n=k+1:=⟨n-1,by omega⟩
   have h0:ilt (a:Int) ((0:Nat):Int)=false:=by rw[A_];simp
   simp only[BE,WE,h0,insInner]
  |succ j ih=>
   intro d n hj hs hn;obtain⟨n,rfl⟩:∃ k,n=k+1:=⟨n-1,by omega⟩
   have e1:w64 (((j+1:Nat):Int)-1)=(j:Int):=by rw[BR (by omega)];omega
   have hj':j<d.size:=by omega
   simp only[BE,WE,A_,e1,Bp hj,Bp hj',CM hj,CM hj',DK,EA,insInner,gt_iff_lt];by_cases h1:a<j+1;cases h2:ltX d[j+1]! d[j]!;simp only[h1,AXi,h2,Bool.and_false,AXw,AXv];simp only[h1,AXi,h2,Bool.and_true,AX9,JX];rw[Bp (by simpa using hj')];simp only[Jx];exact ih (swp d (j+1) j) n (by rw[size_swp];omega) (by rw[size_swp];omega) (by omega);simp only[h1,AXu,AZt,AXw,AXv]
theorem Jc(lt:(EL S)→(EL S)→Bool)(a j:Nat)(d:Array (EL S)):(insInner lt a j d).size=d.size:=by
 induction j generalizing d with
  |zero=>rfl
  |succ j ih=>rw[insInner];split;rw[ih,size_swp];rfl
theorem AO5(a b:Nat):∀ (k i:Nat) (d:Array (EL S)) (n:Nat),b-i=k→b≤d.size→d.size<4611686018427387904→d.size<many→k<n →
  BE (WG S.z S.c) n ((rep d),(a:Int),(b:Int),(i:Int),())=some (.inl ((rep (insOuter ltX a b i d)),())):=by
 intro k;induction k with
  |zero=>
   intro i d n hk hb hs hm hn;obtain⟨n,rfl⟩:∃ k,n=k+1:=⟨n-1,by omega⟩
   have h0:¬ i<b:=by omega
   rw[insOuter];simp only[BE,WG,A_,h0,AXu,AXv]
  |succ k ih=>
   intro i d n hk hb hs hm hn;obtain⟨n,rfl⟩:∃ k,n=k+1:=⟨n-1,by omega⟩
   have h0:i<b:=by omega
   have e1:w64 ((i:Int)+1)=((i+1:Nat):Int):=by rw[BR (by omega)];omega
   rw[insOuter];simp only[BE,WG,A_,h0,AXi,AX9,Bf];rw[ATY a b i i d many (by omega) hs (by omega)];simp only[e1];exact ih (i+1) _ n (by omega) (by rw[Jc];omega) (by rw[Jc];omega) (by rw[Jc];omega) (by omega)
theorem AO4(d:Array (EL S))(a b:Nat)(hab:a≤b)(hb:b≤d.size)(hs:d.size<4294967296):(AJT S.z S.c) ((rep d),(a:Int),(b:Int),())=some ((rep (insertionSort ltX d a b)),()):=by
 have hm:d.size<many:=by simp only[many];omega
 have e1:w64 ((a:Int)+1)=((a+1:Nat):Int):=by rw[BR (by omega)];omega
 rw[ATZ,SN];simp only[e1,Bf];rw[AO5 a b (b-(a+1)) (a+1) d many rfl hb (by omega) hm (by omega)];rfl
end Go.Pev.Pl.SG
end
end
section
section
namespace Go.Pev.Pl.SG
open Go.Sort
variable {α:Type} {S:SP α}
theorem xo(hi first:Nat):∀ (k root:Nat) (d:Array (EL S)) (n:Nat),hi-root=k→root≤hi→first+hi≤d.size→d.size<4294967296→(hi=0∨root<hi)→k<n →
  BE (Pe S.z S.c) n ((rep d),(hi:Int),(first:Int),(root:Int),())=some (.inl ((rep (siftDown ltX hi first root d)),())) ∨
  BE (Pe S.z S.c) n ((rep d),(hi:Int),(first:Int),(root:Int),())=some (.inr (.inl ((rep (siftDown ltX hi first root d)),()))):=by
 intro k;induction k using Nat.strongRecOn with
  |_ k ih=>
   intro root d n hk hr hf hs hz hn;obtain⟨n,rfl⟩:∃ k,n=k+1:=⟨n-1,by omega⟩
   rw[siftDown];simp (disch:=omega) only[BE,Pe,b8,A',wrap_add,Ex,A_];by_cases h1:hi≤2*root+1;simp only[h1,AXi,ge_iff_le,dite_true,true_or];have i0:first+root<d.size:=by omega
   have i1:first+(2*root+1)<d.size:=by omega
   simp only[h1,AXu,ge_iff_le,AXv,dite_false];simp (disch:=omega) only[Bp,CM,DK,EA];by_cases h2:2*root+1+1<hi;have i2:first+(2*root+2)<d.size:=by omega
   have i3:2*root+1+1=2*root+2:=by omega
   have i4:first+(2*root+1)+1=first+(2*root+2):=by omega
   have h3:2*root+2<hi:=by omega
   simp only[i3,i4,h3,AXi];simp (disch:=omega) only[Bp,CM,DK,EA,JX];cases h4:ltX d[first+(2*root+1)]! d[first+(2*root+2)]!;simp only[Bool.and_false,AXw,AXv];cases h5:ltX d[first+root]! d[first+(2*root+1)]!;simp;simp only[AXh,AXw,AXv];rw[Bp (by simpa using i1)];simp only[Jx];exact ih (hi-(2*root+1)) (by omega) (2*root+1) _ n rfl (by omega) (by rw[size_swp];omega) (by rw[size_swp];omega) (by omega) (by omega);simp only[Bool.and_true,AX9];cases h5:ltX d[first+root]! d[first+(2*root+2)]!;simp;simp only[AXh,AXw,AXv,dite_true];rw[Bp (by simpa using i2)];simp only[Jx];exact ih (hi-(2*root+2)) (by omega) (2*root+2) _ n rfl (by omega) (by rw[size_swp];omega) (by rw[size_swp];omega) (by omega) (by omega);simp only[h2,AXu,AZt,AXw,AXv,JX];cases h5:ltX d[first+root]! d[first+(2*root+1)]!;simp;simp only[AXh,AXw,AXv];rw[Bp (by simpa using i1)];simp only[Jx];exact ih (hi-(2*root+1)) (by omega) (2*root+1) _ n rfl (by omega) (by rw[size_swp];omega) (by rw[size_swp];omega) (by omega) (by omega)
theorem cz(d:Array (EL S))(root hi first:Nat)(hf:first+hi≤d.size)(hs:d.size<4294967296)(hz:hi=0∧root=0∨root<hi):(W5 S.z S.c) ((rep d),(root:Int),(hi:Int),(first:Int),())=some ((rep (siftDown ltX hi first root d)),()):=by
 have hm:d.size<many:=by simp only[many];omega
 rw[AMe,NP];simp only[Bf];rcases xo hi first (hi-root) root d many rfl (by omega) hf hs (by omega) (by omega)with h|h<;>rw[h]
theorem Ep(lt:(EL S)→(EL S)→Bool)(hi first:Nat):∀ (k root:Nat) (d:Array (EL S)),hi-root=k→(siftDown lt hi first root d).size=d.size:=by
 intro k;induction k using Nat.strongRecOn with
  |_ k ih=>intro root d hk;rw[siftDown];split;rfl;split;split;rfl;split;rw[ih (hi-(2*root+2)) (by omega) _ _ rfl,size_swp];rfl;split;rfl;rw[ih (hi-(2*root+1)) (by omega) _ _ rfl,size_swp]
theorem sD(hi first:Nat):∀ (k:Nat) (d:Array (EL S)) (n:Nat),(hi=0∧k≤1∨k≤hi)→first+hi≤d.size→d.size<4294967296→k<n →
  BE (Qh S.z S.c) n ((rep d),(first:Int),(0:Int),(hi:Int),(k:Int)-1,())=some (.inl ((rep (heapBuild ltX hi first k d)),(first:Int),(0:Int),(hi:Int),())):=by
 intro k;induction k with
  |zero=>
   intro d n hk hf hs hn;obtain⟨n,rfl⟩:∃ k,n=k+1:=⟨n-1,by omega⟩
   rw[BE,Qh,BZ,AXZ (by omega)];rfl
  |succ k ih=>
   intro d n hk hf hs hn;obtain⟨n,rfl⟩:∃ k,n=k+1:=⟨n-1,by omega⟩
   have e0:((k+1:Nat):Int)-1=(k:Int):=by omega
   rw[BE,Qh,e0,BZ,AXb (by omega)];simp only[cz d k hi first hf hs (by omega)];rw[BR (by omega)];exact ih _ n (by omega) (by rw[Ep _ _ _ _ _ _ rfl];omega) (by rw[Ep _ _ _ _ _ _ rfl];omega) (by omega)
theorem Lw(lt:(EL S)→(EL S)→Bool)(hi first:Nat):∀ (k:Nat) (d:Array (EL S)),(heapBuild lt hi first k d).size=d.size:=by
 intro k;induction k with
  |zero=>intro d;rfl
  |succ k ih=>intro d;rw[heapBuild,ih,Ep _ _ _ _ _ _ rfl]
theorem AJd(first:Nat):∀ (k:Nat) (d:Array (EL S)) (n:Nat),first+k≤d.size→d.size<4294967296→k<n →
  BE (Qg S.z S.c) n ((rep d),(first:Int),(0:Int),(k:Int)-1,())=some (.inl ((rep (heapPop ltX first k d)),())):=by
 intro k;induction k with
  |zero=>
   intro d n hf hs hn;obtain⟨n,rfl⟩:∃ k,n=k+1:=⟨n-1,by omega⟩
   rw[BE,Qg,BZ,AXZ (by omega)];rfl
  |succ k ih=>
   intro d n hf hs hn;obtain⟨n,rfl⟩:∃ k,n=k+1:=⟨n-1,by omega⟩
   have e0:((k+1:Nat):Int)-1=(k:Int):=by omega
   have i0:first<d.size:=by omega
   have i1:first+k<d.size:=by omega
   rw[BE,Qg,e0,BZ,AXb (by omega)];simp (disch:=omega) only[wrap_add,Bp,CM,JX];rw[Bp (by simpa using i1)];simp only[Jx];have:=cz (swp d first (first+k)) 0 k first (by rw[size_swp];omega) (by rw[size_swp];omega) (by omega)
   simp only[Int.natCast_zero]at this;simp only[this];rw[BR (by omega)];exact ih _ n (by rw[Ep _ _ _ _ _ _ rfl,size_swp];omega) (by rw[Ep _ _ _ _ _ _ rfl,size_swp];omega) (by omega)
theorem AJc(d:Array (EL S))(a b:Nat)(hab:a<b)(hb:b≤d.size)(hs:d.size<4294967296):(eg S.z S.c) ((rep d),(a:Int),(b:Int),())=some ((rep (heapSort ltX d a b)),()):=by
 have hm:4294967296<many:=by simp only[many];omega
 rw[APW,Nb];simp (disch:=omega) only[EC,Bu,AWr,Bf];have e:(((b-a-1)/2:Nat):Int)=(((b-a-1)/2+1:Nat):Int)-1:=by omega
 rw[e,sD (b-a) a _ d many (by omega) (by omega) hs (by omega)];have e2:(((b-a-1:Nat)):Int)=((b-a:Nat):Int)-1:=by omega
 simp (disch:=omega) only[Bu,e2];rw[AJd a (b-a) _ many (by rw[Lw];omega) (by rw[Lw];omega) (by omega)];rfl
end Go.Pev.Pl.SG
end
section
namespace Go.Pev.Pl.SG
open Go.Sort
variable {α:Type} {S:SP α}
theorem AHw:∀ (k i j:Nat) (d:Array (EL S)) (n:Nat),j-i=k→(j<d.size)→d.size<4294967296→k<n →
  BE (jU S.z S.c) n ((rep d),(i:Int),(j:Int),())=some (.inl ((rep (reverseLoop i j d)),())):=by
 intro k;induction k using Nat.strongRecOn with
  |_ k ih=>
   intro i j d n hk hj hs hn;obtain⟨n,rfl⟩:∃ k,n=k+1:=⟨n-1,by omega⟩
   rw[reverseLoop,BE,jU];simp only[A_];by_cases h:i<j;have hi:i<d.size:=by omega
   simp only[h,AXi,AX9,Bp hj,Bp hi,CM hi,CM hj,JX];rw[Bp (by simpa using hj)];simp (disch:=omega) only[Jx,A',Bu];exact ih (j-1-(i+1)) (by omega) (i+1) (j-1) _ n rfl (by rw[size_swp];omega) (by rw[size_swp];omega) (by omega);simp only[h,AXu,AXv]
theorem AM8(d:Array (EL S))(a b:Nat)(hab:a<b)(hb:b≤d.size)(hs:d.size<4294967296):(AHx S.z S.c) ((rep d),(a:Int),(b:Int),())=some ((rep (reverseRange d a b)),()):=by
 have hm:4294967296<many:=by simp only[many];omega
 rw[AST,Rw];simp (disch:=omega) only[Bu,Bf];rw[AHw (b-1-a) a (b-1) d many rfl (by omega) hs (by omega)];rfl
theorem Ek{d:Array (EL S)}{i j:Nat}(hi:i<d.size)(hj:j<d.size):idx (BH (rep d) (A3 (i:Int)) (A7 (rep d) (A3 (j:Int)) S.z)) (j:Int)=some ((d.setIfInBounds i d[j]!)[j]!).val ∧
  BH (BH (rep d) (A3 (i:Int)) (A7 (rep d) (A3 (j:Int)) S.z)) (A3 (j:Int)) (A7 (rep d) (A3 (i:Int)) S.z)=(rep (swp d i j)):=by rw[CM hi,CM hj,JX,JX];exact⟨Bp (by simpa using hj),rfl⟩
theorem jL(step:List α×Int×Int×Int×Unit→Option ((List α×Int×Int×Int×Unit)⊕(List α×Int×Int×Int×Unit)⊕Unit))(p:(EL S)→Bool)(d:Array (EL S))(a j:Nat)(hs:d.size<4294967296)(hj:j<d.size)
  (h:∀ i:Nat,i≤d.size→step ((rep d),(a:Int),(i:Int),(j:Int),())=if i≤j∧p d[i]! then some (.inl ((rep d),(a:Int),((i+1:Nat):Int),(j:Int),()))else some (.inr (.inl ((rep d),(a:Int),(i:Int),(j:Int),())))) :
  ∀ (k i n:Nat),j+1-i=k→i≤d.size→k<n→BE step n ((rep d),(a:Int),(i:Int),(j:Int),())=some (.inl ((rep d),(a:Int),((scanUp p d j i:Nat):Int),(j:Int),())):=by
 intro k;induction k using Nat.strongRecOn with
  |_ k ih=>
   intro i n hk hi hn;obtain⟨n,rfl⟩:∃ k,n=k+1:=⟨n-1,by omega⟩
   rw[scanUp,BE,h i hi];by_cases h1:i≤j∧p d[i]! = true;rw[AXp h1,AXp (by simpa using h1)];exact ih (j+1-(i+1)) (by omega) (i+1) n rfl (by omega) (by omega);rw[AXo h1,AXo (by simpa using h1)]
theorem Ro(step:List α×Int×Int×Int×Unit→Option ((List α×Int×Int×Int×Unit)⊕(List α×Int×Int×Int×Unit)⊕Unit))(p:(EL S)→Bool)(d:Array (EL S))(a i:Nat)(hi:1≤i)
  (h:∀ j:Nat,j<d.size→step ((rep d),(a:Int),(i:Int),(j:Int),())=if i≤j∧p d[j]! then some (.inl ((rep d),(a:Int),(i:Int),((j-1:Nat):Int),()))else some (.inr (.inl ((rep d),(a:Int),(i:Int),(j:Int),())))) :
  ∀ (j n:Nat),j<d.size→j<n→BE step n ((rep d),(a:Int),(i:Int),(j:Int),())=some (.inl ((rep d),(a:Int),(i:Int),((scanDown p d i j:Nat):Int),())):=by
 intro j;induction j with
  |zero=>
   intro n hj hn;obtain⟨n,rfl⟩:∃ k,n=k+1:=⟨n-1,by omega⟩
   rw[BE,h 0 hj,AXo (by omega)];rfl
  |succ j ih=>
   intro n hj hn;obtain⟨n,rfl⟩:∃ k,n=k+1:=⟨n-1,by omega⟩
   rw[scanDown,BE,h (j+1) hj];by_cases h1:i≤j+1∧p d[j+1]! = true;rw[AXp h1,AXp (by simpa using h1)];exact ih n (by omega) (by omega);rw[AXo h1,AXo (by simpa using h1)]
section
variable (d:Array (EL S)) (a i j:Nat) (hs:d.size<4294967296) (ha:a<d.size) (hj:j<d.size)
include hs ha hj
theorem q9(hi:i≤d.size):(Xm S.z S.c) ((rep d),(a:Int),(i:Int),(j:Int),())=if i≤j∧(fun x=>ltX x d[a]!) d[i]! = true then some (.inl ((rep d),(a:Int),((i+1:Nat):Int),(j:Int),()))else some (.inr (.inl ((rep d),(a:Int),(i:Int),(j:Int),()))):=by
 rw[Xm];simp only[Ex];by_cases h:i≤j;have hi':i<d.size:=by omega
 simp (disch:=omega) only[h,AXi,Bp,CM,DK,EA,A',AZg];cases ltX d[i]! d[a]!<;>simp;simp only[h,AXu,AZH,AXv]
theorem q7(hi:i≤d.size):(Xj S.z S.c) ((rep d),(a:Int),(i:Int),(j:Int),())=if i≤j∧(fun x=>ltX x d[a]!) d[i]! = true then some (.inl ((rep d),(a:Int),((i+1:Nat):Int),(j:Int),()))else some (.inr (.inl ((rep d),(a:Int),(i:Int),(j:Int),()))):=by
 rw[Xj];simp only[Ex];by_cases h:i≤j;have hi':i<d.size:=by omega
 simp (disch:=omega) only[h,AXi,Bp,CM,DK,EA,A',AZg];cases ltX d[i]! d[a]!<;>simp;simp only[h,AXu,AZH,AXv]
theorem q8(hi:1≤i):(Xl S.z S.c) ((rep d),(a:Int),(i:Int),(j:Int),())=if i≤j∧(fun x => !ltX x d[a]!) d[j]! = true then some (.inl ((rep d),(a:Int),(i:Int),((j-1:Nat):Int),()))else some (.inr (.inl ((rep d),(a:Int),(i:Int),(j:Int),()))):=by rw[Xl];simp only[Ex];by_cases h:i≤j;simp (disch:=omega) only[h,AXi,Bp,CM,DK,EA,Bu,AZg];cases ltX d[j]! d[a]!<;>simp;simp only[h,AXu,AZH,AXv]
theorem qz(hi:1≤i):(Xi S.z S.c) ((rep d),(a:Int),(i:Int),(j:Int),())=if i≤j∧(fun x => !ltX x d[a]!) d[j]! = true then some (.inl ((rep d),(a:Int),(i:Int),((j-1:Nat):Int),()))else some (.inr (.inl ((rep d),(a:Int),(i:Int),(j:Int),()))):=by rw[Xi];simp only[Ex];by_cases h:i≤j;simp (disch:=omega) only[h,AXi,Bp,CM,DK,EA,Bu,AZg];cases ltX d[j]! d[a]!<;>simp;simp only[h,AXu,AZH,AXv]
theorem ae(hi:i≤d.size):(OX S.z S.c) ((rep d),(a:Int),(i:Int),(j:Int),())=if i≤j∧(fun x => !ltX d[a]! x) d[i]! = true then some (.inl ((rep d),(a:Int),((i+1:Nat):Int),(j:Int),()))else some (.inr (.inl ((rep d),(a:Int),(i:Int),(j:Int),()))):=by
 rw[OX];simp only[Ex];by_cases h:i≤j;have hi':i<d.size:=by omega
 simp (disch:=omega) only[h,AXi,Bp,CM,DK,EA,A',AZg];cases ltX d[a]! d[i]!<;>simp;simp only[h,AXu,AZH,AXv]
theorem ab(hi:1≤i):(OW S.z S.c) ((rep d),(a:Int),(i:Int),(j:Int),())=if i≤j∧(fun x=>ltX d[a]! x) d[j]! = true then some (.inl ((rep d),(a:Int),(i:Int),((j-1:Nat):Int),()))else some (.inr (.inl ((rep d),(a:Int),(i:Int),(j:Int),()))):=by rw[OW];simp only[Ex];by_cases h:i≤j;simp (disch:=omega) only[h,AXi,Bp,CM,DK,EA,Bu,AZg];cases ltX d[a]! d[j]!<;>simp;simp only[h,AXu,AZH,AXv]
end
theorem Ly(p:(EL S)→Bool)(d:Array (EL S))(j i:Nat)(hj:j<d.size)(hi:i≤d.size):scanUp p d j i≤d.size:=by
 suffices h:∀ (k i:Nat),j+1-i=k→i≤d.size→scanUp p d j i≤d.size from h _ i rfl hi
 intro k;induction k using Nat.strongRecOn with
  |_ k ih=>
   intro i hk hi;rw[scanUp];split;rename_i h;have:i≤j:=by simp at h;exact h.1
   exact ih (j+1-(i+1)) (by omega) (i+1) rfl (by omega);exact hi
theorem zN(a:Nat):∀ (k i j:Nat) (d:Array (EL S)) (n:Nat),j+1-i=k→a<d.size→1≤i→i≤d.size→j<d.size→d.size<4294967296→k<n →
  BE (Xk S.z S.c) n ((rep d),(a:Int),(i:Int),(j:Int),())=some (.inl ((rep (partLoop ltX a i j d).2),(a:Int),(((partLoop ltX a i j d).1:Nat):Int),()))∧(partLoop ltX a i j d).1≤j∧(partLoop ltX a i j d).2.size=d.size:=by
 intro k;induction k using Nat.strongRecOn with
  |_ k ih=>
   intro i j d n hk ha hi hi' hj hs hn;have hm:4294967296<many:=by simp only[many];omega
   obtain⟨n,rfl⟩:∃ k,n=k+1:=⟨n-1,by omega⟩
   rw[partLoop_eq,BE,Xk];have u1:=scanUp_ge (fun x=>ltX x d[a]!) d j i;have u2:=Ly (fun x=>ltX x d[a]!) d j i hj hi';rw[Bf,jL _ (fun x=>ltX x d[a]!) d a j hs hj (fun i h=>q7 d a i j hs ha hj h) _ i many rfl hi' (by omega)];generalize scanUp (fun x=>ltX x d[a]!) d j i=i2 at *;have v1:=scanDown_le (fun x => !ltX x d[a]!) d i2 j;simp only[Bf];rw[Ro _ (fun x => !ltX x d[a]!) d a i2 (by omega) (fun j h=>qz d a i2 j hs ha h (by omega)) j many hj (by omega)];generalize scanDown (fun x => !ltX x d[a]!) d i2 j=j2 at *;simp only[A_];by_cases h:j2<i2;simp only[h,AXi,gt_iff_lt,AX9];exact⟨trivial,v1,trivial⟩;have hi2:i2<d.size:=by omega
   have hj2:j2<d.size:=by omega
   simp only[h,AXu,gt_iff_lt,AXv,Bp hi2,Bp hj2,(Ek hi2 hj2).1,(Ek hi2 hj2).2];simp (disch:=omega) only[A',Bu];obtain⟨q1,q2,q3⟩:=ih (j2-1+1-(i2+1)) (by omega) (i2+1) (j2-1) (swp d i2 j2) n rfl (by rw[size_swp];omega) (by omega) (by rw[size_swp];omega) (by rw[size_swp];omega) (by rw[size_swp];omega) (by omega);exact⟨q1,by omega,by rw[q3,size_swp]⟩
theorem AIS(d:Array (EL S))(a b p:Nat)(ha:a≤p)(hp:p<b)(hb:b≤d.size)(hs:d.size<4294967296):
  (TX S.z S.c) ((rep d),(a:Int),(b:Int),(p:Int),())=some ((rep (partition ltX d a b p).2.2),(((partition ltX d a b p).1:Nat):Int),(partition ltX d a b p).2.1,()):=by
 have hm:4294967296<many:=by simp only[many];omega
 have ha':a<d.size:=by omega
 have hp':p<d.size:=by omega
 rw[AOK,NT,partition];simp only[Bp ha',Bp hp',(Ek ha' hp').1,(Ek ha' hp').2];have hs':=hs;rw[← size_swp d a p]at ha' hs' hb;generalize swp d a p=d at *;simp (disch:=omega) only[A',Bu,Bf];have u1:=scanUp_ge (fun x=>ltX x d[a]!) d (b-1) (a+1);have u2:=Ly (fun x=>ltX x d[a]!) d (b-1) (a+1) (by omega) (by omega);rw[jL _ (fun x=>ltX x d[a]!) d a (b-1) hs' (by omega) (fun i h=>q9 d a i (b-1) hs' ha' (by omega) h) _ (a+1) many rfl (by omega) (by omega)];generalize scanUp (fun x=>ltX x d[a]!) d (b-1) (a+1)=i2 at *;have v1:=scanDown_le (fun x => !ltX x d[a]!) d i2 (b-1);simp only[];rw[Ro _ (fun x => !ltX x d[a]!) d a i2 (by omega) (fun j h=>q8 d a i2 j hs' ha' h (by omega)) (b-1) many (by omega) (by omega)];generalize scanDown (fun x => !ltX x d[a]!) d i2 (b-1)=j2 at *;simp only[A_];have hj2:j2<d.size:=by omega
 by_cases h:j2<i2;simp only[h,AXi,gt_iff_lt,AX9,Bp ha',Bp hj2,(Ek hj2 ha').1,(Ek hj2 ha').2];have hi2:i2<d.size:=by omega
 simp only[h,AXu,gt_iff_lt,AXv,Bp hi2,Bp hj2,(Ek hi2 hj2).1,(Ek hi2 hj2).2];simp (disch:=omega) only[A',Bu];obtain⟨q1,q2,q3⟩:=zN a (j2-1+1-(i2+1)) (i2+1) (j2-1) (swp d i2 j2) many rfl (by rw[size_swp];omega) (by omega) (by rw[size_swp];omega) (by rw[size_swp];omega) (by rw[size_swp];omega) (by omega);simp only[q1];rw[size_swp]at q3;generalize partLoop ltX a (i2+1) (j2-1) (swp d i2 j2)=r at *;have h1:r.1<r.2.size:=by omega
 have h2:a<r.2.size:=by omega
 simp only[Bp h1,Bp h2,(Ek h1 h2).1,(Ek h1 h2).2]
theorem jv(a:Nat):∀ (k i j:Nat) (d:Array (EL S)) (n:Nat),j+1-i=k→a<d.size→1≤i→i≤d.size→j<d.size→d.size<4294967296→k<n →
  BE (OY S.z S.c) n ((rep d),(a:Int),(i:Int),(j:Int),())=some (.inl ((rep (partEqLoop ltX a i j d).2),(((partEqLoop ltX a i j d).1:Nat):Int),())):=by
 intro k;induction k using Nat.strongRecOn with
  |_ k ih=>
   intro i j d n hk ha hi hi' hj hs hn;have hm:4294967296<many:=by simp only[many];omega
   obtain⟨n,rfl⟩:∃ k,n=k+1:=⟨n-1,by omega⟩
   rw[partEqLoop_eq,BE,OY];have u1:=scanUp_ge (fun x => !ltX d[a]! x) d j i;have u2:=Ly (fun x => !ltX d[a]! x) d j i hj hi';rw[Bf,jL _ (fun x => !ltX d[a]! x) d a j hs hj (fun i h=>ae d a i j hs ha hj h) _ i many rfl hi' (by omega)];generalize scanUp (fun x => !ltX d[a]! x) d j i=i2 at *;have v1:=scanDown_le (fun x=>ltX d[a]! x) d i2 j;simp only[Bf];rw[Ro _ (fun x=>ltX d[a]! x) d a i2 (by omega) (fun j h=>ab d a i2 j hs ha h (by omega)) j many hj (by omega)];generalize scanDown (fun x=>ltX d[a]! x) d i2 j=j2 at *;simp only[A_];by_cases h:j2<i2;simp only[h,AXi,gt_iff_lt,AX9];have hi2:i2<d.size:=by omega
   have hj2:j2<d.size:=by omega
   simp only[h,AXu,gt_iff_lt,AXv,Bp hi2,Bp hj2,(Ek hi2 hj2).1,(Ek hi2 hj2).2];simp (disch:=omega) only[A',Bu];exact ih (j2-1+1-(i2+1)) (by omega) (i2+1) (j2-1) (swp d i2 j2) n rfl (by rw[size_swp];omega) (by omega) (by rw[size_swp];omega) (by rw[size_swp];omega) (by rw[size_swp];omega) (by omega)
theorem rC(d:Array (EL S))(a b p:Nat)(ha:a≤p)(hp:p<b)(hb:b≤d.size)(hs:d.size<4294967296):
  (NU S.z S.c) ((rep d),(a:Int),(b:Int),(p:Int),())=some ((rep (partitionEqual ltX d a b p).2),(((partitionEqual ltX d a b p).1:Nat):Int),()):=by
 have hm:4294967296<many:=by simp only[many];omega
 have ha':a<d.size:=by omega
 have hp':p<d.size:=by omega
 rw[ze,Hr,partitionEqual];simp only[Bp ha',Bp hp',(Ek ha' hp').1,(Ek ha' hp').2];have hs':=hs;rw[← size_swp d a p]at ha' hs' hb;generalize swp d a p=d at *;simp (disch:=omega) only[A',Bu,Bf];rw[jv a _ (a+1) (b-1) d many rfl ha' (by omega) (by omega) (by omega) hs' (by omega)]
end Go.Pev.Pl.SG
end
section
namespace Go.Pev.Pl.SG
open Go.Sort
variable {α:Type} {S:SP α}
theorem Pf(d:Array (EL S))(b:Nat):∀ (k i:Nat),b-i=k→i≤b→i≤scanSorted ltX d b i∧scanSorted ltX d b i≤b:=by
 intro k;induction k using Nat.strongRecOn with
  |_ k ih=>
   intro i hk hi;rw[scanSorted];split;rename_i h;have:i<b:=by simp at h;exact h.1
   have:=ih (b-(i+1)) (by omega) (i+1) rfl (by omega);omega;omega
theorem aY(d:Array (EL S))(a b s:Nat)(hb:b≤d.size)(hs:d.size<4294967296):∀ (k i n:Nat),b-i=k→1≤i→i≤b→k<n →
  BE (L_ S.z S.c) n ((rep d),(a:Int),(b:Int),(i:Int),(s:Int),())=some (.inl ((rep d),(a:Int),(b:Int),((scanSorted ltX d b i:Nat):Int),(s:Int),())):=by
 intro k;induction k using Nat.strongRecOn with
  |_ k ih=>
   intro i n hk h1 hi hn;obtain⟨n,rfl⟩:∃ k,n=k+1:=⟨n-1,by omega⟩
   rw[scanSorted,BE,L_];simp only[A_];by_cases h:i<b;have i0:i<d.size:=by omega
   have i1:i-1<d.size:=by omega
   simp (disch:=omega) only[h,AXi,Bu,A',Bp,CM,DK,EA,AaN];cases h2:ltX d[i]! d[i-1]!;simp only[AYL,AX9];exact ih (b-(i+1)) (by omega) (i+1) n rfl (by omega) (by omega) (by omega);simp only[AXh,AXw,AXv];simp only[h,AXu,AZt,AXw,AXv]
theorem aa(a b i s:Nat):∀ (j:Nat) (d:Array (EL S)) (n:Nat),j<d.size→d.size<4294967296→j<n →
  BE (JC S.z S.c) n ((rep d),(a:Int),(b:Int),(i:Int),(s:Int),(j:Int),())=some (.inl ((rep (shiftDown ltX j d)),(a:Int),(b:Int),(i:Int),(s:Int),())):=by
 intro j;induction j with
  |zero=>
   intro d n hj hs hn;obtain⟨n,rfl⟩:∃ k,n=k+1:=⟨n-1,by omega⟩
   rw[BE,JC,BZ,AXZ (by omega)];rfl
  |succ j ih=>
   intro d n hj hs hn;obtain⟨n,rfl⟩:∃ k,n=k+1:=⟨n-1,by omega⟩
   have hj':j<d.size:=by omega
   rw[shiftDown,BE,JC,BZ,AXb (by omega)];simp (disch:=omega) only[Bu,AZp,Bp,CM,DK,EA];cases h2:ltX d[j+1]! d[j]!;simp only[AYL,AX9];have e1:=Ek hj hj';simp only[CM hj,CM hj']at e1;simp only[AXh,AXw,AXv,e1];exact ih _ n (by rw[size_swp];omega) (by rw[size_swp];omega) (by omega)
theorem TV(a b i s:Nat):∀ (k j:Nat) (d:Array (EL S)) (n:Nat),b-j=k→1≤j→b≤d.size→d.size<4294967296→k<n →
  BE (JB S.z S.c) n ((rep d),(a:Int),(b:Int),(i:Int),(s:Int),(j:Int),())=some (.inl ((rep (shiftUp ltX b j d)),(a:Int),(b:Int),(i:Int),(s:Int),())):=by
 intro k;induction k using Nat.strongRecOn with
  |_ k ih=>
   intro j d n hk h1 hb hs hn;obtain⟨n,rfl⟩:∃ k,n=k+1:=⟨n-1,by omega⟩
   rw[shiftUp,BE,JB];simp only[A_];by_cases h:j<b;have i0:j<d.size:=by omega
   have i1:j-1<d.size:=by omega
   simp (disch:=omega) only[h,AXi,AX9,Bu,A',Bp,CM,DK,EA];cases h2:ltX d[j]! d[j-1]!;simp only[AYL,AX9];have e1:=Ek i0 i1;simp only[CM i0,CM i1]at e1;simp only[AXh,AXw,AXv,e1];exact ih (b-(j+1)) (by omega) (j+1) _ n rfl (by omega) (by rw[size_swp];omega) (by rw[size_swp];omega) (by omega);simp only[h,AXu,AXv]
theorem W4:∀ (j:Nat) (d:Array (EL S)),(shiftDown ltX j d).size=d.size:=by
 intro j;induction j with
  |zero=>intro d;rfl
  |succ j ih=>intro d;rw[shiftDown];split;rfl;rw[ih,size_swp]
theorem HV(b:Nat):∀ (k j:Nat) (d:Array (EL S)),b-j=k→(shiftUp ltX b j d).size=d.size:=by
 intro k;induction k using Nat.strongRecOn with
  |_ k ih=>intro j d hk;rw[shiftUp];split;split;rfl;rw[ih (b-(j+1)) (by omega) (j+1) _ rfl,size_swp];rfl
theorem aZ(a b:Nat)(hab:a<b):∀ (k i s:Nat) (d:Array (EL S)) (n:Nat),s+k=5→a+1≤i→i≤b→b≤d.size→d.size<4294967296→k<n →
  BE (EH S.z S.c) n ((rep d),(a:Int),(b:Int),(i:Int),(s:Int),())=some (.inl ((rep (partialIns ltX a b k i d).1),(partialIns ltX a b k i d).2,())) ∨
  ((partialIns ltX a b k i d).2=false∧BE (EH S.z S.c) n ((rep d),(a:Int),(b:Int),(i:Int),(s:Int),())=some (.inr (.inl ((rep (partialIns ltX a b k i d).1),())))):=by
 intro k;induction k with
  |zero=>
   intro i s d n hk h1 hi hb hs hn;obtain⟨n,rfl⟩:∃ k,n=k+1:=⟨n-1,by omega⟩
   rw[BE,EH,BM,AXZ (by omega)];exact .inr ⟨rfl,rfl⟩
  |succ k ih=>
   intro i s d n hk h1 hi hb hs hn;have hm:4294967296<many:=by simp only[many];omega
   have es:w64 ((s:Int)+1)=((s+1:Nat):Int):=A' (by omega);obtain⟨n,rfl⟩:∃ k,n=k+1:=⟨n-1,by omega⟩
   rw[BE,EH,BM,AXb (by omega),partialIns];simp only[Bf,aY d a b s hb hs (b-i) i many rfl (by omega) hi (by omega)];have hsc:=Pf d b _ i rfl hi;generalize scanSorted ltX d b i=i2 at *;simp only[AEh];by_cases h2:i2=b;simp only[h2,AXi,AX9,true_or];simp (disch:=omega) only[h2,AXu,AXv,EC,BM,BZ];by_cases h3:b-a<50;rw[AXp h3,AXb (by omega)];exact .inl rfl;have i0:i2<d.size:=by omega
   have i1:i2-1<d.size:=by omega
   rw[AXo h3,AXZ (by omega)];simp (disch:=omega) only[Bu,A',Bp i0,Bp i1,(Ek i0 i1).1,(Ek i0 i1).2];have hsz:=size_swp d i2 (i2-1);generalize swp d i2 (i2-1)=d2 at *;by_cases h4:i2-a≥2;rw[AXp h4,AXb (show(2:Int)≤((i2-a:Nat):Int) by omega)];simp only[aa a b i2 s (i2-1) d2 many (by omega) (by omega) (by omega)];have hsz2:=W4 (i2-1) d2;generalize shiftDown ltX (i2-1) d2=d3 at *;simp (disch:=omega) only[EC,A'];by_cases h5:b-i2≥2;rw[AXp h5,AXb (show(2:Int)≤((b-i2:Nat):Int) by omega)];simp only[TV a b i2 s _ (i2+1) d3 many rfl (by omega) (by omega) (by omega) (by omega)];simp only[es];exact ih i2 (s+1) (shiftUp ltX b (i2+1) d3) n (by omega) (by omega) (by omega) (by rw[HV b (b-(i2+1)) (i2+1) _ rfl];omega) (by rw[HV b (b-(i2+1)) (i2+1) _ rfl];omega) (by omega);rw[AXo h5,AXZ (show ¬ (2:Int)≤((b-i2:Nat):Int) by omega)];simp only[es];exact ih i2 (s+1) d3 n (by omega) (by omega) (by omega) (by omega) (by omega) (by omega);rw[AXo h4,AXZ (show ¬ (2:Int)≤((i2-a:Nat):Int) by omega)];by_cases h5:b-i2≥2;rw[AXp h5,AXb (show(2:Int)≤((b-i2:Nat):Int) by omega)];simp only[TV a b i2 s _ (i2+1) d2 many rfl (by omega) (by omega) (by omega) (by omega)];simp only[es];exact ih i2 (s+1) (shiftUp ltX b (i2+1) d2) n (by omega) (by omega) (by omega) (by rw[HV b (b-(i2+1)) (i2+1) _ rfl];omega) (by rw[HV b (b-(i2+1)) (i2+1) _ rfl];omega) (by omega);rw[AXo h5,AXZ (show ¬ (2:Int)≤((b-i2:Nat):Int) by omega)];simp only[es];exact ih i2 (s+1) d2 n (by omega) (by omega) (by omega) (by omega) (by omega) (by omega)
theorem jt(d:Array (EL S))(a b:Nat)(hab:a<b)(hb:b≤d.size)(hs:d.size<4294967296):
  (J2 S.z S.c) ((rep d),(a:Int),(b:Int),())=some ((rep (partialInsertionSort ltX d a b).1),(partialInsertionSort ltX d a b).2,()):=by
 have hm:4294967296<many:=by simp only[many];omega
 rw[qp,GG,partialInsertionSort];simp (disch:=omega) only[A',Bf];have h:=aZ a b hab 5 (a+1) 0 d many rfl (AXl _) (by omega) hb hs (by omega);rcases h with h|⟨h0,h⟩
 have h':BE (EH S.z S.c) many ((rep d),(a:Int),(b:Int),((a+1:Nat):Int),(0:Int),())=_:=h;rw[h'];have h':BE (EH S.z S.c) many ((rep d),(a:Int),(b:Int),((a+1:Nat):Int),(0:Int),())=_:=h;rw[h',h0]
theorem MD(d:Array (EL S))(a b:Nat)(s:Int)(ha:a<d.size)(hb:b<d.size):
  ∃ s' p q,(JD S.z S.c) ((rep d),(a:Int),(b:Int),s,())=some ((rep d),s',((p:Nat):Int),((q:Nat):Int),())∧(p=a∧q=b∨p=b∧q=a):=by rw[zm,Hs];simp only[Bp ha,Bp hb,CM ha,CM hb,DK,EA];cases ltX d[b]! d[a]!;exact⟨_,a,b,rfl,.inl ⟨rfl,rfl⟩⟩;exact⟨_,b,a,rfl,.inr ⟨rfl,rfl⟩⟩
theorem ME(d:Array (EL S))(a b c:Nat)(s:Int)(ha:a<d.size)(hb:b<d.size)(hc:c<d.size):
  ∃ s' p,(JF S.z S.c) ((rep d),(a:Int),(b:Int),(c:Int),s,())=some ((rep d),s',((p:Nat):Int),())∧(p=a∨p=b∨p=c):=by rw[z4,Ht];obtain⟨s1,p1,q1,e1,h1⟩:=MD d a b s ha hb;simp only[e1];obtain⟨s2,p2,q2,e2,h2⟩:=MD d q1 c s1 (by omega) hc;simp only[e2];obtain⟨s3,p3,q3,e3,h3⟩:=MD d p1 p2 s2 (by omega) (by omega);simp only[e3];exact⟨_,q3,rfl,by omega⟩
theorem MF(d:Array (EL S))(a:Nat)(s:Int)(h1:1≤a)(ha:a+1<d.size)(hs:d.size<4294967296):
  ∃ s' p,(JG S.z S.c) ((rep d),(a:Int),s,())=some ((rep d),s',((p:Nat):Int),())∧a≤p+1∧p≤a+1:=by rw[z9,Hu];simp (disch:=omega) only[Bu,A'];obtain⟨s1,p1,e1,h1⟩:=ME d (a-1) a (a+1) s (by omega) (by omega) ha;simp only[e1];exact⟨_,p1,rfl,by omega⟩
theorem yr(d:Array (EL S))(a b:Nat)(hab:a+8≤b)(hb:b≤d.size)(hs:d.size<4294967296):
  ∃ p h,(R1 S.z S.c) ((rep d),(a:Int),(b:Int),())=some ((rep d),((p:Nat):Int),h,())∧a≤p∧p<b:=by rw[AID,J1];simp (disch:=omega) only[EC,ADb,AGk,NC,AGj,wrap_add,BZ];rw[AXb (show(8:Int)≤((b-a:Nat):Int) by omega)];simp only[];by_cases h:50≤b-a;rw[AXb (show(50:Int)≤((b-a:Nat):Int) by omega)];simp only[];obtain⟨s1,p1,e1,h1⟩:=MF d (a+(b-a)/4*1) 0 (by omega) (by omega) hs;simp only[e1];obtain⟨s2,p2,e2,h2⟩:=MF d (a+(b-a)/4*2) s1 (by omega) (by omega) hs;simp only[e2];obtain⟨s3,p3,e3,h3⟩:=MF d (a+(b-a)/4*3) s2 (by omega) (by omega) hs;simp only[e3];obtain⟨s4,p4,e4,h4⟩:=ME d p1 p2 p3 s3 (by omega) (by omega) (by omega);simp only[e4];cases ieq s4 0;cases ieq s4 12;exact⟨p4,_,rfl,by omega,by omega⟩;exact⟨p4,_,rfl,by omega,by omega⟩;exact⟨p4,_,rfl,by omega,by omega⟩;rw[AXZ (show ¬ (50:Int)≤((b-a:Nat):Int) by omega)];simp only[];obtain⟨s4,p4,e4,h4⟩:=ME d (a+(b-a)/4*1) (a+(b-a)/4*2) (a+(b-a)/4*3) 0 (by omega) (by omega) (by omega);simp only[e4];cases ieq s4 0;cases ieq s4 12;exact⟨p4,_,rfl,by omega,by omega⟩;exact⟨p4,_,rfl,by omega,by omega⟩;exact⟨p4,_,rfl,by omega,by omega⟩
end Go.Pev.Pl.SG
end
section
namespace Go.Pev.Pl
open Go.Sort
theorem AJI:(List.range 256).all (fun k=>match HJ[k]? with
  |some v=>decide (0≤v)&&(decide (v≤8)&&decide (2 ^ v.toNat≤max 1 (2*k)))
  |none=>false)=true:=by decide +kernel
theorem AJJ{k:Nat}(h:k<256):∃ v:Nat,idx HJ (k:Int)=some (v:Int)∧v≤8∧2 ^ v≤max 1 (2*k):=by
 have:=AXy.1 AJI k (AYS.2 h);rw[idx_eq,YX,AXo (by omega),AYG];cases e:HJ[k]? with
  |none=>rw[e]at this;cases this
  |some v=>rw[e]at this;simp only[AXd,AXc]at this;exact⟨v.toNat,by rw[Int.toNat_of_nonneg this.1],by omega,this.2.2⟩
theorem jB(n s:Nat)(h:s≤64):shr? .u64 (n:Int) (s:Int)=some ((n/2 ^ s:Nat):Int):=by rw[Rj,oe,AXo (by omega),AYG,show min s (IntKind.bits .u64)=s from AYg h,AZR _ (Int.pow_nonneg (by omega))];rfl
theorem u8_in{n:Int}(h:0≤n∧n≤255):IntKind.wrap .u8 n=n:=IntWalk.u8_in n h
theorem u64_in{n:Int}(h:0≤n∧n≤18446744073709551615):IntKind.wrap .u64 n=n:=IntWalk.u64_in n h
theorem AJK(n:Nat)(hn:n<4294967296):∃ v:Nat,AEb ((n:Int),())=some ((v:Int),())∧v≤32∧2 ^ v≤max 1 (2*n):=by
 rw[rY,j8,BZ,AXZ (by omega)];simp only[BZ];have key:∀ (s m:Nat),s≤24→m<256→m*2 ^ s≤n→(s=0∨1≤m)→∃ v:Nat,idx HJ (m:Int)=some (v:Int)∧v≤8∧2 ^ (s+v)≤max 1 (2*n):=by
  intro s m hs hm hle h1;obtain⟨v,e,h8,hp⟩:=AJJ hm;refine⟨v,e,h8,?_⟩;rcases h1 with rfl|h1;rw[AYQ];simp at hle;omega;have h2:2 ^ v≤2*m:=by omega
  have h3:2 ^ (s+v)≤2*(m*2 ^ s):=by rw[Nat.pow_add,Nat.mul_comm (2 ^ s),← Nat.mul_assoc];exact AYT _ h2
  omega
 by_cases h1:65536≤n;rw[AXb (show(65536:Int)≤(n:Int) by omega)];have e16:shr? .u64 (n:Int) 16=some ((n/65536:Nat):Int):=jB n 16 (by omega);simp only[e16];by_cases h2:256≤n/65536;rw[AXb (show(256:Int)≤((n/65536:Nat):Int) by omega)];have e8:shr? .u64 ((n/65536:Nat):Int) 8=some ((n/65536/256:Nat):Int):=jB _ 8 (by omega);obtain⟨v,e,h8,hp⟩:=key 24 (n/65536/256) (by omega) (by omega) (by omega) (by omega);simp only[e8];rw[u8_in (by omega)];simp only[e];refine⟨24+v,?_,by omega,hp⟩;rw[BR (n:=0+16) (by omega),BR (n:=(0:Int)+16+8) (by omega),BR (n:=(v:Int)) (by omega),BR (by omega)];congr 2;rw[AXZ (show ¬ (256:Int)≤((n/65536:Nat):Int) by omega)];obtain⟨v,e,h8,hp⟩:=key 16 (n/65536) (by omega) (by omega) (by omega) (by omega);simp only[];rw[u8_in (by omega)];simp only[e];refine⟨16+v,?_,by omega,hp⟩;rw[BR (n:=0+16) (by omega),BR (n:=(v:Int)) (by omega),BR (by omega)];congr 2;rw[AXZ (show ¬ (65536:Int)≤(n:Int) by omega)];by_cases h2:256≤n;have e8:shr? .u64 (n:Int) 8=some ((n/256:Nat):Int):=jB n 8 (by omega);obtain⟨v,e,h8,hp⟩:=key 8 (n/256) (by omega) (by omega) (by omega) (by omega);simp only[];rw[AXb (show(256:Int)≤(n:Int) by omega)];simp only[e8];rw[u8_in (by omega)];simp only[e];refine⟨8+v,?_,by omega,hp⟩;rw[BR (n:=0+8) (by omega),BR (n:=(v:Int)) (by omega),BR (by omega)];congr 2;obtain⟨v,e,h8,hp⟩:=key 0 n (by omega) (by omega) (by omega) (by omega);simp only[];rw[AXZ (show ¬ (256:Int)≤(n:Int) by omega)];simp only[];rw[u8_in (by omega)];simp only[e];refine⟨0+v,?_,by omega,hp⟩;rw[BR (n:=(v:Int)) (by omega),BR (by omega)];congr 2
theorem Tz(n:Nat)(hn:n<4294967296):∃ v:Nat,bitsLen ((n:Int),())=some ((v:Int),())∧v≤32∧2 ^ v≤max 1 (2*n):=by rw[ZL,Su];obtain⟨v,e,h⟩:=AJK n hn;simp only[e];exact⟨v,rfl,h⟩
theorem rG(n:Nat)(h1:1≤n)(hn:n<4294967296):∃ m:Nat,P1 ((n:Int),())=some ((m:Int),())∧1≤m∧m≤2*n:=by
 rw[Xu,R7,u64_in (by omega)];obtain⟨v,e,h32,hp⟩:=Tz n hn;simp only[e];have e2:shl? .u64 (1:Int) (v:Int)=some ((2 ^ v:Nat):Int):=by
  rw[jC,AHS,AXo (by omega),AYG,show min v (IntKind.bits .u64)=v from AYg (by show v≤64;omega),Int.one_mul];have:2 ^ v≤2 ^ 32:=Nat.pow_le_pow_right (by omega) h32;have h1:1≤2 ^ v:=Nat.one_le_two_pow;have e:((2:Int) ^ v)=((2 ^ v:Nat):Int):=by simp
  rw[e,u64_in (by constructor<;>omega)]
 simp only[e2];exact⟨2 ^ v,rfl,Nat.one_le_two_pow,by omega⟩
theorem nb(r:Int):∃ r' y,xorNext (r,())=some (r',y,()):=by rw[WT,RY,jC,AHS,AXo (by omega)];simp only[];rw[Rj,oe,AXo (by omega)];simp only[];rw[jC,AHS,AXo (by omega)];exact⟨_,_,rfl⟩
theorem AOT(y:Int)(m:Nat)(h1:1≤m)(hm:m<18446744073709551616):∃ o:Nat,IntKind.wrap .u64 ((BitVec.ofInt (IntKind.bits .u64) y &&& BitVec.ofInt (IntKind.bits .u64) (IntKind.wrap .u64 ((m:Int)-1))).toNat)=(o:Int)∧o<m:=by
 rw[u64_in (n:=(m:Int)-1) (by omega),show(m:Int)-1=((m-1:Nat):Int) by omega,BitVec.toNat_and];have h2:(BitVec.ofInt (IntKind.bits .u64) ((m-1:Nat):Int)).toNat=m-1:=by rw[BitVec.ofInt_natCast,BitVec.toNat_ofNat];exact AYW (by show m-1<18446744073709551616;omega)
 rw[h2];have h3:(BitVec.ofInt (IntKind.bits .u64) y).toNat &&& (m-1)≤m-1:=Nat.and_le_right;exact⟨_,u64_in (by omega),by omega⟩
end Go.Pev.Pl
end
section
namespace Go.Pev.Pl.SG
open Go.Sort
variable {α:Type} {S:SP α}
theorem tz(a b:Nat)(m:Nat)(h8:a+8≤b)(hm1:1≤m)(hm:m≤2*(b-a)):∀ (k t:Nat) (d:Array (EL S)) (r:Int) (n:Nat),t+k=3→b≤d.size→d.size<4294967296→k<n →
  ∃ d':Array (EL S),BE (KN S.z S.c) n ((rep d),(a:Int),((b-a:Nat):Int),r,(m:Int),((a+(b-a)/4*2-1+t:Nat):Int),())=some (.inl ((rep d'),()))∧PermIn a b d d':=by
 intro k;induction k with
  |zero=>
   intro t d r n hk hb hs hn;obtain⟨n,rfl⟩:∃ k,n=k+1:=⟨n-1,by omega⟩
   rw[BE,KN];simp (disch:=omega) only[ADb,NC,wrap_add,A',Ex];rw[AXZ (by omega)];exact⟨d,rfl,permIn_refl d a b⟩
  |succ k ih=>
   intro t d r n hk hb hs hn;obtain⟨n,rfl⟩:∃ k,n=k+1:=⟨n-1,by omega⟩
   rw[BE,KN];simp (disch:=omega) only[ADb,NC,wrap_add,A',Ex];rw[AXb (show a+(b-a)/4*2-1+t≤a+(b-a)/4*2+1 by omega)];obtain⟨r',y,e⟩:=nb r;obtain⟨o,e2,ho⟩:=AOT y m hm1 (by omega);simp only[e,e2];rw[BR (n:=(o:Int)) (by omega)];simp only[Ex];have i0:a+(b-a)/4*2-1+t<d.size:=by omega
   have fin:∀ q:Nat,a≤q→q<b→∃ d':Array (EL S),BE (KN S.z S.c) n ((rep (swp d (a+(b-a)/4*2-1+t) q)),(a:Int),((b-a:Nat):Int),r',(m:Int),((a+(b-a)/4*2-1+t+1:Nat):Int),())=some (.inl ((rep d'),()))∧PermIn a b d d':=by intro q hq1 hq2;obtain⟨d',e',hp⟩:=ih (t+1) (swp d (a+(b-a)/4*2-1+t) q) r' n (by omega) (by rw[size_swp];omega) (by rw[size_swp];omega) (by omega);exact⟨d',e',permIn_trans _ _ _ a b (swp_permIn d a b _ q (by omega) (by omega) hq1 hq2 hb) hp⟩
   by_cases h:b-a≤o;have i1:a+(o-(b-a))<d.size:=by omega
   simp (disch:=omega) only[h,AXi,EC,wrap_add,A',Bp i0,Bp i1,(Ek i0 i1).1,(Ek i0 i1).2];exact fin _ (by omega) (by omega);have i1:a+o<d.size:=by omega
   simp (disch:=omega) only[h,AXu,EC,wrap_add,A',Bp i0,Bp i1,(Ek i0 i1).1,(Ek i0 i1).2];exact fin _ (by omega) (by omega)
theorem ABj(d:Array (EL S))(a b:Nat)(hab:a≤b)(hb:b≤d.size)(hs:d.size<4294967296):
  ∃ d':Array (EL S),(Ss S.z S.c) ((rep d),(a:Int),(b:Int),())=some ((rep d'),())∧PermIn a b d d':=by
 have hm:4294967296<many:=by simp only[many];omega
 rw[AK1,KO];simp (disch:=omega) only[EC,BZ];by_cases h:8≤b-a;rw[AXb (show(8:Int)≤((b-a:Nat):Int) by omega)];obtain⟨m,e,h1,h2⟩:=rG (b-a) (by omega) (by omega);simp only[e];rw[u64_in (n:=((b-a:Nat):Int)) (by omega)];simp (disch:=omega) only[ADb,NC,wrap_add,Bu,Bf];obtain⟨d',e2,hp⟩:=tz a b m (by omega) h1 h2 3 0 d ((b-a:Nat):Int) many rfl hb hs (by omega);rw[AZL]at e2;simp only[e2];exact⟨d',rfl,hp⟩;rw[AXZ (show ¬ (8:Int)≤((b-a:Nat):Int) by omega)];exact⟨d,rfl,permIn_refl d a b⟩
end Go.Pev.Pl.SG
end
section
namespace Go.Pev.Pl.SG
open Go.Sort
variable {α:Type} {S:SP α}
abbrev AXK(α:Type):=List α×Int×Int×Int×Bool×Bool×Unit
abbrev AFe(α:Type):=AXK α⊕(List α×Unit)⊕Unit
def ZT(d:Array (EL S))(a b:Nat):AFe α→Prop
 |.inl (xs,x,y,l,_,_,_)=>∃ (e:Array (EL S)) (i j:Nat),xs=(rep e)∧x=(i:Int)∧y=(j:Int)∧0≤l∧l≤100∧i≤j∧j≤e.size∧e.size=d.size∧j-i<b-a∧Below ltX i j e ∧
   ∀ R,PermIn i j e R→SortedIn ltX i j R→PermIn a b d R∧SortedIn ltX a b R
 |.inr (.inl (xs,_))=>∃ R:Array (EL S),xs=(rep R)∧PermIn a b d R∧SortedIn ltX a b R
 |.inr (.inr _)=>False
def Fq(self:(List α×Int×Int×Int×Unit)→Option ((List α×Unit)))(m:Nat):Prop:=
 ∀ (d:Array (EL S)) (a b:Nat) (l:Int),a≤b→b≤d.size→d.size<4294967296→0≤l→l≤100→Below ltX a b d→2*(b-a)<m →
  ∃ R:Array (EL S),self ((rep d),(a:Int),(b:Int),l,())=some ((rep R),())∧PermIn a b d R∧SortedIn ltX a b R
section
variable {self:(List α×Int×Int×Int×Unit)→Option ((List α×Unit))} {d:Array (EL S)} {a b:Nat} {l:Int}
theorem qN(hself:Fq (S:=S) self (b-a))(hb:b≤d.size)(hs:d.size<4294967296)(hl:0≤l∧l≤100)
  {d3:Array (EL S)} {p:Nat} (P3:PermIn a b d d3) (B3:Below ltX a b d3) (hp1:a≤p) (hp2:p<b) :
  ∃ o,(match(TX S.z S.c) ((rep d3),(a:Int),(b:Int),(p:Int),())with
  |none=>none
  |some (y20,y21,y22,_)=>match quo? .i64 (w64 ((b:Int)-(a:Int))) (8:Int)with
   |none=>none
   |some x23=>match(ilt (w64 (y21-(a:Int))) (w64 ((b:Int)-y21)))with
    |true=>match self (y20,(a:Int),y21,l,())with
     |none=>none
     |some (y24,_)=>some ((.inl (y24,(w64 (y21+(1:Int))),(b:Int),l,(ile x23 (w64 (y21-(a:Int)))),y22,())):AFe α)
    |false=>match self (y20,(w64 (y21+(1:Int))),(b:Int),l,())with
     |none=>none
     |some (y25,_)=>some (.inl (y25,(a:Int),y21,l,(ile x23 (w64 ((b:Int)-y21))),y22,())))=some o∧ZT d a b o:=by
 have b3:b≤d3.size:=by rw[P3.1];exact hb
 have s3:d3.size<4294967296:=by rw[P3.1];exact hs
 rw[AIS d3 a b p hp1 hp2 b3 s3];rcases hx:partition ltX d3 a b p with⟨mid,ap,d4⟩
 obtain⟨g1,g2,hs4,hBa,hBr,hleft,hright⟩:=round_part AMC (partition_holds _) hp1 hp2 b3 B3 hx;simp (disch:=omega) only[EC,A',AWq,A_];have b4:b≤d4.size:=by omega
 by_cases h:mid-a<b-mid;obtain⟨L,e,l1,l2⟩:=hself d4 a mid l g1 (by omega) (by omega) hl.1 hl.2 hBa (by omega);simp only[h,AXi,e];obtain⟨hBL,hfin⟩:=hleft _ l1 l2;refine⟨_,rfl,L,mid+1,b,rfl,rfl,rfl,hl.1,hl.2,by omega,by rw[l1.1];exact b4,by rw[l1.1,hs4,P3.1],by omega,hBL,fun R r1 r2 => ?_⟩;obtain⟨q1,q2⟩:=hfin R r1 r2;exact⟨permIn_trans _ _ _ a b P3 q1,q2⟩;obtain⟨L,e,l1,l2⟩:=hself d4 (mid+1) b l (by omega) (by omega) (by omega) hl.1 hl.2 hBr (by omega);simp only[h,AXu,e];obtain⟨hBL,hfin⟩:=hright _ l1 l2;refine⟨_,rfl,L,a,mid,rfl,rfl,rfl,hl.1,hl.2,by omega,by rw[l1.1];omega,by rw[l1.1,hs4,P3.1],by omega,hBL,fun R r1 r2 => ?_⟩;obtain⟨q1,q2⟩:=hfin R r1 r2;exact⟨permIn_trans _ _ _ a b P3 q1,q2⟩
theorem Pt(hself:Fq (S:=S) self (b-a))(hb:b≤d.size)(hs:d.size<4294967296)(hl:0≤l∧l≤100)
  {d3:Array (EL S)} {p:Nat} (wb wp:Bool) (P3:PermIn a b d d3) (B3:Below ltX a b d3) (hp1:a≤p) (hp2:p<b) :
  ∃ o,(R4 S.z S.c) self (rep d3) (a:Int) (b:Int) (p:Int) l wb wp=some o∧ZT d a b o:=by
 have b3:b≤d3.size:=by rw[P3.1];exact hb
 have s3:d3.size<4294967296:=by rw[P3.1];exact hs
 rw[R4,BM];by_cases h0:0<a;rw[AXb (by omega)];have i0:a-1<d3.size:=by omega
 have i1:p<d3.size:=by omega
 simp (disch:=omega) only[Bu,Bp,CM,DK,EA];cases hc:ltX d3[a-1]! d3[p]!;simp only[AYL];rw[rC d3 a b p hp1 hp2 b3 s3];rcases hx:partitionEqual ltX d3 a b p with⟨mid,d4⟩
 obtain⟨hm1,hm2,hs4,hB4,hfin⟩:=round_eq AMC (partitionEqual_holds _) h0 hp1 hp2 b3 B3 hc hx;refine⟨_,rfl,d4,mid,b,rfl,rfl,rfl,hl.1,hl.2,by omega,by omega,by rw[hs4,P3.1],by omega,hB4,fun R r1 r2 => ?_⟩;obtain⟨q1,q2⟩:=hfin R r1 r2;exact⟨permIn_trans _ _ _ a b P3 q1,q2⟩;simp only[AXh];exact qN hself hb hs hl P3 B3 hp1 hp2;rw[AXZ (by omega)];exact qN hself hb hs hl P3 B3 hp1 hp2
theorem ADp(hself:Fq (S:=S) self (b-a))(hab:a<b)(hb:b≤d.size)(hs:d.size<4294967296)(hl:0≤l∧l≤100)
  {d3:Array (EL S)} {p:Nat} (h:Int) (wb wp:Bool) (P3:PermIn a b d d3) (B3:Below ltX a b d3) (hp1:a≤p) (hp2:p<b) :
  ∃ o,(jq S.z S.c) self (rep d3) (a:Int) (b:Int) (p:Int) h l wb wp=some o∧ZT d a b o:=by
 have b3:b≤d3.size:=by rw[P3.1];exact hb
 have s3:d3.size<4294967296:=by rw[P3.1];exact hs
 unfold jq;cases wb;exact Pt hself hb hs hl _ _ P3 B3 hp1 hp2;cases wp;exact Pt hself hb hs hl _ _ P3 B3 hp1 hp2;simp only[];cases ieq h 1;exact Pt hself hb hs hl _ _ P3 B3 hp1 hp2;simp only[];rw[jt d3 a b hab b3 s3];obtain⟨q1,q2⟩:=partialInsertionSort_holds (lt:=ltX) AMC d3 a b hab b3 B3;rcases hx:partialInsertionSort ltX d3 a b with⟨d4,fin⟩
 rw[hx]at q1 q2;have P4:PermIn a b d d4:=permIn_trans _ _ _ a b P3 q1;cases fin;exact Pt hself hb hs hl _ _ P4 (B3.perm b3 q1) hp1 hp2;exact⟨_,rfl,d4,rfl,P4,q2 rfl⟩
theorem ADo(hself:Fq (S:=S) self (b-a))(hab:a+8≤b)(hb:b≤d.size)(hs:d.size<4294967296)(hl:0≤l∧l≤100)
  {d3:Array (EL S)} (wb wp:Bool) (P3:PermIn a b d d3) (B3:Below ltX a b d3) :
  ∃ o,(jo S.z S.c) self (rep d3) (a:Int) (b:Int) l wb wp=some o∧ZT d a b o:=by
 have b3:b≤d3.size:=by rw[P3.1];exact hb
 have s3:d3.size<4294967296:=by rw[P3.1];exact hs
 rw[jo];obtain⟨p,h,e,hp1,hp2⟩:=yr d3 a b hab b3 s3;simp only[e];cases ieq h 2;exact ADp hself (by omega) hb hs hl h _ _ P3 B3 hp1 hp2;simp only[AM8 d3 a b (by omega) b3 s3];have q1:=reverseRange_holds (α:=(EL S)) d3 a b (by omega) b3;simp (disch:=omega) only[Bu,EC];exact ADp hself (by omega) hb hs hl 1 _ _ (permIn_trans _ _ _ a b P3 q1) (B3.perm b3 q1) (by omega) (by omega)
theorem AIL(hself:Fq (S:=S) self (b-a))(hab:a≤b)(hb:b≤d.size)(hs:d.size<4294967296)(hl:0≤l∧l≤100)(wb wp:Bool)(B:Below ltX a b d):
  ∃ o,(Kt S.z S.c) self ((rep d),(a:Int),(b:Int),l,wb,wp,())=some o∧ZT d a b o:=by rw[Kt];simp (disch:=omega) only[EC,BZ,D_];by_cases h12:b-a≤12;rw[AXb (show((b-a:Nat):Int)≤12 by omega)];simp only[AO4 d a b hab hb hs];obtain⟨q1,q2⟩:=insertionSort_holds (lt:=ltX) AMC d a b hab hb;exact⟨_,rfl,_,rfl,q1,q2⟩;rw[AXZ (show ¬ ((b-a:Nat):Int)≤12 by omega)];simp only[];by_cases h0:l=0;subst h0;simp only[BEq.rfl,AJc d a b (by omega) hb hs];obtain⟨q1,q2⟩:=heapSort_holds (lt:=ltX) AMC d a b hab hb;exact⟨_,rfl,_,rfl,q1,q2⟩;rw[show(l==0)=false by simpa using h0];simp only[];cases wb;obtain⟨d',e,q1⟩:=ABj d a b hab hb hs;simp only[AYL,e];rw[BR (by omega)];exact ADo hself (by omega) hb hs (by omega) _ _ q1 (B.perm hb q1);simp only[AXh];exact ADo hself (by omega) hb hs hl _ _ (permIn_refl d a b) B
end
theorem qO{self:(List α×Int×Int×Int×Unit)→Option ((List α×Unit))}{m:Nat}(hself:Fq (S:=S) self m):∀ (k:Nat) (d:Array (EL S)) (a b:Nat) (l:Int) (wb wp:Bool) (n:Nat),b-a=k→k≤m→a≤b→b≤d.size→d.size<4294967296→0≤l→l≤100→Below ltX a b d→k<n →
  ∃ R:Array (EL S),BE ((Kt S.z S.c) self) n ((rep d),(a:Int),(b:Int),l,wb,wp,())=some (.inl ((rep R),()))∧PermIn a b d R∧SortedIn ltX a b R:=by
 intro k;induction k using Nat.strongRecOn with
  |_ k ih=>
   intro d a b l wb wp n hk hm hab hb hs hl1 hl2 B hn;obtain⟨n,rfl⟩:∃ k,n=k+1:=⟨n-1,by omega⟩
   have hself':Fq (S:=S) self (b-a):=fun d a' b' l h1 h2 h3 h4 h5 h6 h7=>hself d a' b' l h1 h2 h3 h4 h5 h6 (by omega);obtain⟨o,e,ho⟩:=AIL hself' hab hb hs ⟨hl1,hl2⟩ wb wp B;rw[BE,e];match o,ho with
  |.inl (xs,x,y,l',wb',wp',_),ho=>obtain⟨e',i,j,rfl,rfl,rfl,g1,g2,g3,g4,g5,g6,g7,hfin⟩:=ho;obtain⟨R,e2,r1,r2⟩:=ih (j-i) (by omega) e' i j l' wb' wp' n rfl (by omega) g3 g4 (by omega) g1 g2 g7 (by omega);exact⟨R,e2,hfin R r1 r2⟩
  |.inr (.inl (xs,_)),ho=>obtain⟨R,rfl,r1,r2⟩:=ho;exact⟨R,rfl,r1,r2⟩
theorem AIM:∀ k:Nat,Fq (S:=S) ((Jf S.z S.c) (k+1)) (2 ^ k):=by
 intro k;have hmany:4294967296<many:=by simp only[many];omega
 induction k with
  |zero=>
   intro d a b l h1 h2 h3 h4 h5 h6 h7;have:Fq (S:=S) ((Jf S.z S.c) 0) 0:=fun _ _ _ _ _ _ _ _ _ _ h=>by omega
   obtain⟨R,e,r1,r2⟩:=qO this (b-a) d a b l true true many rfl (by omega) h1 h2 h3 h4 h5 h6 (by omega);refine⟨R,?_,r1,r2⟩;rw[Jf,R5];simp only[Bf,e]
  |succ k ih=>
   intro d a b l h1 h2 h3 h4 h5 h6 h7;have hp:2 ^ (k+1)=2*2 ^ k:=by rw[Nat.pow_succ];omega
   obtain⟨R,e,r1,r2⟩:=qO ih (b-a) d a b l true true many rfl (by omega) h1 h2 h3 h4 h5 h6 (by omega);refine⟨R,?_,r1,r2⟩;rw[Jf,R5];simp only[Bf,e]
theorem W2{α:Type}(S:SP α)(xs:List α)(h:xs.length<4294967296)(hok:∀ x∈xs,S.ok x):∃ ys,(oX S.z S.c) (xs,())=some (ys,())∧ys.Perm xs∧ys.Pairwise fun x y=>S.lt y x=false:=by
 obtain⟨d,rfl⟩:∃ d:Array (EL S),xs=rep d:=by refine⟨(xs.attach.map fun x=>⟨x.val,hok x.val x.property⟩).toArray,?_⟩;simp only[rep,List.map_map];exact(List.attach_map_subtype_val xs).symm
 have hl:(rep d).length=d.size:=by simp[rep]
 rw[hl]at h;rw[AMO,NO];rw[AFF,u64_in (by omega)];obtain⟨v,e,hv,_⟩:=Tz d.size h;simp only[e];obtain⟨R,e2,r1,r2⟩:=AIM 99 d 0 d.size (v:Int) (by omega) (by omega) h (by omega) (by omega) (.inl rfl) (by
  have:2 ^ 99=633825300114114700748351602688:=by decide
  omega)
 have e3:(AIQ S.z S.c) (rep d,(0:Int),(d.size:Int),(v:Int),())=some (rep R,()):=by rw[ASq];exact e2
 refine⟨rep R,by simp only[e3],?_,?_⟩;obtain⟨hsz,_,hp⟩:=r1;have e1:R.extract 0 d.size=R:=by rw[← hsz];exact Array.extract_size
 rw[e1,Array.extract_size]at hp;exact hp.map _;rw[rep,AZG,AZZ];intro i j hi hj hij;have hi':i<R.size:=by simpa using hi
 have hj':j<R.size:=by simpa using hj
 have:=r2 i j (AZ1 _) hij (by rw[← r1.1];omega);rw[getElem!_pos R j hj',getElem!_pos R i hi']at this;simpa [ltX]using this
end Go.Pev.Pl.SG
end
section
namespace Go.Pev.Pl.SL
open Go.Sort
def ok(l:List Int):Prop:=l≠[]
def okz:List Int:=[0]
theorem Xs:ok okz:=by simp[ok,okz]
def lt(x y:List Int):Bool:=ltInt (x.headD 0) (y.headD 0)
theorem swo:SWO lt:=⟨fun x=>swo_ltInt.irrefl _,fun x y z=>swo_ltInt.trans _ _ _,fun x y z=>swo_ltInt.ntrans _ _ _⟩
theorem lE{x y:List Int}(hx:ok x)(hy:ok y):∃ c,Cp (x,y,())=some (c,())∧ilt c (0:Int)=lt x y:=by
 cases x with
  |nil=>exact absurd rfl hx
  |cons a x=>
   cases y with
    |nil=>exact absurd rfl hy
    |cons b y=>
     rw[nr,iL];have i1:idx (a::x) (0:Int)=some a:=by rw[idx_eq];rfl
     have i2:idx (b::y) (0:Int)=some b:=by rw[idx_eq];rfl
     simp only[i1,i2,Mt,LP,jw,jx];simp only[D_,BM,lt,AZn,ltInt];by_cases h:a<b;simp[h];by_cases h2:b<a;simp[h,h2];simp[h,h2]
noncomputable def S:SG.SP (List Int):=⟨([]:List (Int)),Cp,ok,okz,Xs,lt,swo,fun h1 h2=>lE h1 h2⟩
theorem W2(xs:List (List Int))(h:xs.length<4294967296)(hok:∀ x∈xs,ok x):∃ ys,ADE (xs,())=some (ys,())∧ys.Perm xs∧ys.Pairwise fun x y=>lt y x=false:=SG.W2 S xs h hok
end Go.Pev.Pl.SL
end
end
section
namespace Go.Pev.Pl
abbrev Edge:=Int×Int×Unit
inductive Con(l:List Edge):Int→Int→Prop
 |refl (a:Int):Con l a a
 |edge (e:Edge):e∈l→Con l e.1 e.2.1
 |symm {a b:Int}:Con l a b→Con l b a
 |trans {a b c:Int}:Con l a b→Con l b c→Con l a c
theorem Con.mono{l l':List Edge}(h:∀ e∈l,∃ e'∈l',(e'.1=e.1∧e'.2.1=e.2.1)∨(e'.1=e.2.1∧e'.2.1=e.1)){a b:Int}(c:Con l a b):Con l' a b:=by
 induction c with
  |refl a=>exact .refl a
  |edge e he=>obtain⟨e',h1,h2|h2⟩:=h e he;have:=Con.edge e' h1;rw[h2.1,h2.2]at this;exact this;have:=Con.edge e' h1;rw[h2.1,h2.2]at this;exact this.symm
  |symm _ ih=>exact ih.symm
  |trans _ _ ih1 ih2=>exact ih1.trans ih2
theorem Con.snoc{l:List Edge}{e:Edge}{a b:Int}:Con (l++[e]) a b↔Con l a b∨(Con l a e.1∧Con l e.2.1 b)∨(Con l a e.2.1∧Con l e.1 b):=by
 constructor;intro h;induction h with
  |refl a=>exact .inl (.refl a)
  |edge e' he=>rcases AXq.1 he with h|h;exact .inl (.edge e' h);simp only[AYB]at h;subst h;exact .inr (.inl ⟨.refl _,.refl _⟩)
  |symm _ ih=>
   rcases ih with h|⟨h1,h2⟩|⟨h1,h2⟩
   exact .inl h.symm;exact .inr (.inr ⟨h2.symm,h1.symm⟩);exact .inr (.inl ⟨h2.symm,h1.symm⟩)
  |trans _ _ ih1 ih2=>
   rcases ih1 with h|⟨h1,h2⟩|⟨h1,h2⟩
   rcases ih2 with g|⟨g1,g2⟩|⟨g1,g2⟩
   exact .inl (h.trans g);exact .inr (.inl ⟨h.trans g1,g2⟩);exact .inr (.inr ⟨h.trans g1,g2⟩);rcases ih2 with g|⟨g1,g2⟩|⟨g1,g2⟩
   exact .inr (.inl ⟨h1,h2.trans g⟩);exact .inr (.inl ⟨h1,g2⟩);exact .inl (h1.trans g2);rcases ih2 with g|⟨g1,g2⟩|⟨g1,g2⟩
   exact .inr (.inr ⟨h1,h2.trans g⟩);exact .inl (h1.trans g2);exact .inr (.inr ⟨h1,g2⟩)
 have up:∀ {x y},Con l x y→Con (l++[e]) x y:=fun h=>h.mono fun e' he=>⟨e',by simp[he],.inl ⟨rfl,rfl⟩⟩
 have he:Con (l++[e]) e.1 e.2.1:=.edge e (by simp);rintro (h|⟨h1,h2⟩|⟨h1,h2⟩);exact up h;exact(up h1).trans (he.trans (up h2));exact(up h1).trans (he.symm.trans (up h2))
theorem Con.nil{a b:Int}(h:Con [] a b):a=b:=by
 induction h with
  |refl a=>rfl
  |edge e he=>cases he
  |symm _ ih=>exact ih.symm
  |trans _ _ ih1 ih2=>exact ih1.trans ih2
theorem Con.const{l:List Edge}{f:Int→Int}(h:∀ e∈l,f e.1=f e.2.1){a b:Int}(c:Con l a b):f a=f b:=by
 induction c with
  |refl a=>rfl
  |edge e he=>exact h e he
  |symm _ ih=>exact ih.symm
  |trans _ _ ih1 ih2=>exact ih1.trans ih2
end Go.Pev.Pl
end
section
section
namespace Go.Pev.Pl
open Tok
def Df{α:Type}(P:Nat→Bool):Nat→List α→List α
 |_,[]=>[]
 |i,x::xs=>if P i then Df P (i+1) xs else x::Df P (i+1) xs
theorem s7{α:Type}(P:Nat→Bool):∀ (xs:List α) (s:Nat),(∀ k,s≤k→P k=false)→Df P s xs=xs:=by
 intro xs;induction xs with
  |nil=>intro s _;rfl
  |cons x xs ih=>intro s h;rw[Df,h s (AXl _),ih (s+1) fun k hk=>h k (by omega)];rfl
theorem AAq{α:Type}(P:Nat→Bool)(i:Nat):∀ (xs:List α) (s:Nat),s≤i→(∀ k,s≤k→P k=decide (k=i))→Df P s xs=xs.eraseIdx (i-s):=by
 intro xs;induction xs with
  |nil=>intro s _ _;rfl
  |cons x xs ih=>intro s hs h;rw[Df,h s (AXl _)];by_cases e:s=i;subst e;rw[s7 P xs (s+1) fun k hk=>by rw[h k (by omega)];simp;omega];simp;rw[ih (s+1) (by omega) fun k hk=>h k (by omega)];rw[AXZ e,AXo (by simp),show i-s=(i-(s+1))+1 by omega,AZj]
theorem LL{α:Type}(P:Nat→Bool)(i j:Nat)(hij:i<j):∀ (xs:List α) (s:Nat),s≤i→(∀ k,s≤k→P k=decide (k=i∨k=j))→Df P s xs=(xs.eraseIdx (j-s)).eraseIdx (i-s):=by
 intro xs;induction xs with
  |nil=>intro s _ _;rfl
  |cons x xs ih=>intro s hs h;rw[Df,h s (AXl _)];by_cases e:s=i;subst e;rw[AAq P j xs (s+1) (by omega) fun k hk=>by rw[h k (by omega)];exact AZh.2 ⟨fun q=>by omega,fun q=>.inr q⟩];rw[AXb (.inl rfl),AXp rfl,show j-s=(j-(s+1))+1 by omega,AZj,AY0,List.eraseIdx_zero];rfl;rw[ih (s+1) (by omega) fun k hk=>h k (by omega)];rw[AXZ (by omega),AXo (by simp),show j-s=(j-(s+1))+1 by omega,AZj,show i-s=(i-(s+1))+1 by omega,AZj]
theorem s8{α:Type}(P:Nat→Bool):∀ (xs:List α) (acc:List α) (k:Nat),(xs.foldl (fun(a:List α×Nat) x=>(if P a.2 then a.1 else a.1++[x],a.2+1)) (acc,k)).1=acc++Df P k xs:=by
 intro xs;induction xs with
  |nil=>intro acc k;simp[Df]
  |cons x xs ih=>intro acc k;rw[AYI,ih,Df];cases P k<;>simp
theorem AAr{α:Type}(P:Nat→Bool):∀ (xs:List α) (k:Nat),(Df P k xs).length≤xs.length∧∀ x∈Df P k xs,x∈xs:=by
 intro xs;induction xs with
  |nil=>intro k;simp[Df]
  |cons x xs ih=>intro k;obtain⟨h1,h2⟩:=ih (k+1);rw[Df];split;exact⟨by simp only[AXg];omega,fun y hy=>AXx _ (h2 y hy)⟩;refine⟨by simp only[AXg];omega,fun y hy => ?_⟩;rcases AXf.1 hy with rfl|hy;simp;exact AXx _ (h2 y hy)
theorem cJ(n:Int)(rings:List (List Int))(away:List Int)(come:List (List Int))(hlen:rings.length<1073741824)(ha:away.length<1073741824)(hc:come.length<1073741824)
  (hne:∀ l∈rings,l≠[]) (hce:∀ r∈come,plain r≠[]) :
  ∃ ys,ACv ((n,(rings,())),away,come,())=some (n,ys,())∧ys.Perm (Df (fun k=>decide ((k:Int)∈away)) 0 rings++come.map plain)∧ys.Pairwise (fun a b=>¬ hd b<hd a):=by
 rw[n0,iQ]
 have e:=Ct (step:=Lq) (fun i (a:List (List Int)×Nat)=>(away,come,n,rings,(0:Int),a.1,rings,A4 rings,(i:Int),())) rings
  (fun x a=>.inl (if decide ((a.2:Int)∈away)then a.1 else a.1++[x],a.2+1)) (fun a=>.inl (come,n,rings,(0:Int),a.1,())) (fun i a=>a.2=i∧a.1.length≤i) (by omega)
  (fun i x a hi hx ⟨h1,h2⟩=>by
   refine⟨fun m' h' => ?_,fun r h'=>by cases h'⟩
   cases h'
   subst h1
   rw[Lq,A8,A_,AXb hi]
   simp only[BK hx,Jo away _ (show away.length<9223372036854775808 by omega)]
   rw[A' (by omega),Bt (by simp only[A8,AXg,AXs];omega)]
   by_cases h:(a.2:Int)∈away
   ·simp only[h,AXi,AXh,AX9]
    exact⟨by trivial,by trivial,by omega⟩
   ·simp only[h,AXu,AYL]
    exact⟨by trivial,by trivial,by simp;omega⟩)
  (fun a _=>by rw[Lq,A8,A_,AXZ (by omega)]) ([],0) ⟨rfl,by simp⟩
 have e':A9 Lq many (away,come,n,rings,(0:Int),[],rings,A4 rings,(0:Int),())=_:=e;rw[e',B0];have hdf:(rings.foldl (fun(a:List (List Int)×Nat) x=>(if decide ((a.2:Int)∈away)then a.1 else a.1++[x],a.2+1)) ([],0)).1=Df (fun k=>decide ((k:Int)∈away)) 0 rings:=by have:=s8 (fun k=>decide ((k:Int)∈away)) rings [] 0;rw[AX2]at this;exact this
 simp only[hdf];obtain⟨g1,g2⟩:=AAr (fun k=>decide ((k:Int)∈away)) rings 0;generalize Df (fun k=>decide ((k:Int)∈away)) 0 rings=rest at *
 have f:=Ct (step:=Lp) (fun i (a:List (List Int))=>(n,rings,(0:Int),a,come,A4 come,(i:Int),())) come
  (fun x a=>.inl (a++[plain x])) (fun a=>.inl (n,rings,(0:Int),a,())) (fun i a=>a.length=rest.length+i) (by omega)
  (fun i x a hi hx h1=>by
   refine⟨fun m' h' => ?_,fun r h'=>by cases h'⟩
   cases h'
   rw[Lp,A8,A_,AXb hi]
   simp only[BK hx,yE]
   rw[A' (by omega),Bt (by simp only[A8,AXg,AXs];omega)]
   exact⟨rfl,by simp;omega⟩)
  (fun a _=>by rw[Lp,A8,A_,AXZ (by omega)]) rest rfl
 have f':A9 Lp many (n,rings,(0:Int),rest,come,A4 come,(0:Int),())=_:=f;rw[f',B0];have hfold:∀ (l acc:List (List Int)),l.foldl (fun a x=>a++[plain x]) acc=acc++l.map plain:=by
  intro l;induction l with
   |nil=>intro acc;simp
   |cons x l ih=>intro acc;rw[AYI,ih];simp
 simp only[hfold];obtain⟨ys,y1,y2,y3⟩:=SL.W2 (rest++come.map plain) (by simp;omega) (fun x hx=>by rcases AXq.1 hx with h|h;exact hne x (g2 x h);obtain⟨r,hr,rfl⟩:=AYE.1 h;exact hce r hr)
 refine⟨ys,by simp only[y1],y2,y3.imp fun {a b} h => ?_⟩;simp only[SL.lt,Go.Sort.ltInt,AYM]at h;exact h
def XS(rest:List (List Int))(p:List Int):List (List Int):=rest.take (rest.findIdx fun x => !decide (hd x<hd p))++p::rest.drop (rest.findIdx fun x => !decide (hd x<hd p))
theorem dU(rest:List (List Int))(p:List Int):(XS rest p).Perm (p::rest):=by rw[XS];refine List.perm_middle.trans ?_;rw[AYK]
theorem ADd{rest:List (List Int)}{p:List Int}(h:rest.Pairwise (fun a b=>hd a<hd b))(hne:∀ x∈rest,hd x≠hd p):(XS rest p).Pairwise (fun a b=>hd a<hd b):=by
 rw[XS];have hlt:∀ x∈rest.take (rest.findIdx fun x => !decide (hd x<hd p)),hd x<hd p:=by intro x hx;obtain⟨j,hj,e⟩:=AZY.1 hx;have:=List.not_of_lt_findIdx (p:=fun x => !decide (hd x<hd p)) (xs:=rest) (i:=j) (by omega);rw[e]at this;simpa using this
 have hgt:∀ x∈rest.drop (rest.findIdx fun x => !decide (hd x<hd p)),hd p<hd x:=by
  intro x hx;by_cases hk:(rest.findIdx fun x => !decide (hd x<hd p))<rest.length;have h0:=List.findIdx_getElem (p:=fun x => !decide (hd x<hd p)) (xs:=rest) (w:=hk);rw[AYH hk]at hx;have h1:¬ hd rest[rest.findIdx fun x => !decide (hd x<hd p)]<hd p:=by simpa using h0
  have h2:=hne _ (AYp hk);rcases AXf.1 hx with rfl|hx;omega;have hpw:(rest.drop (rest.findIdx fun x => !decide (hd x<hd p))).Pairwise (fun a b=>hd a<hd b):=h.sublist (List.drop_sublist _ _);rw[AYH hk,AYP]at hpw;have:=hpw.1 x hx;omega;rw[AYa (by omega)]at hx;cases hx
 rw[List.pairwise_append,AYP];refine⟨h.sublist (List.take_sublist _ _),⟨hgt,h.sublist (List.drop_sublist _ _)⟩,fun a ha b hb => ?_⟩;rcases AXf.1 hb with rfl|hb;exact hlt a ha;have:=hlt a ha;have:=hgt b hb;omega
theorem AEi{l:List Int}(h:l≠[]):idx l (0:Int)=some (hd l):=by
 cases l with
  |nil=>exact absurd rfl h
  |cons x l=>rw[G2];rfl
theorem AQD(l:List Int):A7 l 0 (0:Int)=hd l:=by cases l<;>rfl
end Go.Pev.Pl
end
section
namespace Go.Pev.Pl
open Tok
theorem lf{n u v:Int}(h:okT n (.arc u v)):n≤En n u v:=by rw[Fl h];exact(WJ h.1 h.2.1).1
def Bw(n:Int)(A B:List Int)(u v:Int):List Int:=u::En n u v::(Bo B v++En n v u::(Bo A u).tail)
theorem NV{n u v:Int}{A B:List Int}(hA:TI n A)(hB:TI n B)(hu:u∈A)(hv:v∈B)(iu:In n u)(iv:In n v)(hd:Dis n A B):
  TI n (Bw n A B u v)∧Bo A u=u::(Bo A u).tail∧(∀ t,t<n→(t∈Bw n A B u v↔t∈A∨t∈B))∧u≠v∧okT n (.arc u v):=by
 obtain⟨a,a1,a2,a3⟩:=uO hA (t:=.ver u) iu hu;obtain⟨b,b1,b2,b3⟩:=uO hB (t:=.ver v) iv hv;have a1':Bo A u=(Tok.ver u::a).map (EP n):=a1;have b1':Bo B v=(Tok.ver v::b).map (EP n):=b1;have huv:u≠v:=by rintro rfl;exact hd u hu iu.2.2.2 hv
 have ho:okT n (.arc u v):=⟨iu,iv,huv⟩
 have pA:=(DQ hu).perm;have pB:=(DQ hv).perm;have ht:Bo A u=u::(Bo A u).tail:=by rw[a1'];rfl
 have hall:Bw n A B u v=(Tok.ver u :: .arc u v::(.ver v::b ++ .arc v u::a)).map (EP n):=by rw[Bw,a1',b1',Fl ho,Fl (FT ho)];simp[EP]
 refine⟨⟨_,hall,fun t ht => ?_,T.join a2 b2 fun x hx hx2 => ?_⟩,ht,fun t ht2 => ?_,huv,ho⟩;rcases AXf.1 ht with rfl|ht;exact iu;rcases AXf.1 ht with rfl|ht;exact ho;rcases AXq.1 ht with ht|ht;exact b3 t ht;rcases AXf.1 ht with rfl|ht;exact FT ho;exact a3 t (AXx _ ht);have ix:=a3 _ hx;have x1:x∈A:=pA.mem_iff.2 (by rw[a1'];exact AYE.2 ⟨_,hx,rfl⟩);have x2:x∈B:=pB.mem_iff.2 (by rw[b1'];exact AYE.2 ⟨_,hx2,rfl⟩);exact hd x x1 ix.2.2.2 x2;have g1:=lf ho;have g2:=lf (FT ho);have e1:t∈A↔t=u∨t∈(Bo A u).tail:=by rw[pA.mem_iff,ht,AXf,AY2]
 rw[Bw,AXf,AXf,AXq,AXf,e1,← pB.mem_iff];constructor;rintro (h|h|h|h|h);exact .inl (.inl h);omega;exact .inr h;omega;exact .inl (.inr h);rintro ((h|h)|h);exact .inl h;exact .inr (.inr (.inr (.inr h)));exact .inr (.inr (.inl h))
theorem KJ{n:Int}{a b:List (List Int)}(h:a.Perm b)(ha:a.Pairwise (Dis n)):b.Pairwise (Dis n):=(h.pairwise_iff fun {_ _} hh=>hh.symm).1 ha
theorem AFi{n:Int}{rings rest zs:List (List Int)}{A B p:List Int}(h:FR n rings)(hp:rings.Perm (A::B::rest))(hg:RG n p)(hm:∀ t,t<n→(t∈p↔t∈A∨t∈B))(hz:zs.Perm (p::rest))(hu:zs.Pairwise (fun a b=>hd a<hd b)):FR n zs:=by have hd0:=KJ hp h.dis;rw[AYP,AYP]at hd0;obtain⟨h1,h2,h3⟩:=hd0;refine⟨h.sz,fun l hl => ?_,hu,KJ hz.symm ?_,fun v hv => ?_⟩;rcases AXf.1 (hz.mem_iff.1 hl)with rfl|hl;exact hg;exact h.rg l (hp.mem_iff.2 (by simp[hl]));rw[AYP];refine⟨fun r hr t ht htn => ?_,h3⟩;rcases(hm t htn).1 ht with g|g;exact h1 r (by simp[hr]) t g htn;exact h2 r hr t g htn;obtain⟨l,hl,hvl⟩:=h.cov v hv;have:=hp.mem_iff.1 hl;simp only[AXf]at this;rcases this with rfl|rfl|g;exact⟨p,hz.mem_iff.2 (by simp),(hm v hv.2.2.2).2 (.inl hvl)⟩;exact⟨p,hz.mem_iff.2 (by simp),(hm v hv.2.2.2).2 (.inr hvl)⟩;exact⟨l,hz.mem_iff.2 (by simp[g]),hvl⟩
theorem H4(n:Int)(rings:List (List Int))(u v:Int)(hD:Dom rings):asked ((n,(rings,())),u,v,())=some (if RF n rings then if In n u∧In n v then 0 else 10 else 1,()):=by rw[uC,lZ];simp only[Wj n rings hD.1 hD.2,il];by_cases h:RF n rings;by_cases h1:In n u;by_cases h2:In n v<;>simp[h,h1,h2];simp[h,h1];simp[h]
theorem APB(a b:Nat):imax (a:Int) (b:Int)=((max a b:Nat):Int):=by rw[imax];split<;>omega
theorem APA(a b:Nat):Cb (a:Int) (b:Int)=((min a b:Nat):Int):=by rw[Cb];split<;>omega
theorem ATE{n:Int}{rings:List (List Int)}{u v:Int}{i j:Nat}{A B:List Int}(h:FR n rings)(iu:In n u)(iv:In n v)(hi:rings[i]? = some A)(hj:rings[j]? = some B)(hu:u∈A)(hv:v∈B)(hij:i≠j):
  ∃ zs rest,Nu ((n,(rings,())),u,v,())=some (n,zs,0,())∧FR n zs∧rings.Perm (A::B::rest)∧zs.Perm (plain (Bw n A B u v)::rest)∧Dis n A B:=by
 have hD:=h.dom;have hRF:=M0.2 h;have rA:=h.rg A (AXk hi);have rB:=h.rg B (AXk hj);have hil:=(AYJ.1 hi).1;have hjl:=(AYJ.1 hj).1;have pu:plc rings u=(i:Int):=h.jd hi iu.2.2.2 hu;have pv:plc rings v=(j:Int):=h.jd hj iv.2.2.2 hv;have hperm:rings.Perm (A::B::(rings.eraseIdx (max i j)).eraseIdx (min i j)):=by rcases AaB hij with g|g;rw[AaQ (by omega),AYg (by omega)];exact JW g hi hj;rw[Nat.max_eq_left (by omega),AaR (by omega)];exact(JW g hj hi).trans (List.Perm.swap _ _ _)
 have hdis:Dis n A B:=by have:=KJ hperm h.dis;rw[AYP]at this;exact this.1 B (by simp)
 obtain⟨l1,l2,l3,huv,ho⟩:=NV rA.2.2.2 rB.2.2.2 hu hv iu iv hdis;obtain⟨hRG,hrot⟩:=ZS l1;have hall:Bw n A B u v=u::En n u v::(Bo B v++En n v u::(Bo A u).tail):=rfl;have lA:(Bo A u).length≤1000:=by rw[← (DQ hu).perm.length_eq];exact rA.1.1
 have lB:(Bo B v).length≤1000:=by rw[← (DQ hv).perm.length_eq];exact rB.1.1
 have hsub:((rings.eraseIdx (max i j)).eraseIdx (min i j)).Sublist rings:=(AZu _ _).trans (AZu _ _);have hdrop:Df (fun k=>decide ((k:Int)∈[(i:Int),(j:Int)])) 0 rings=(rings.eraseIdx (max i j)).eraseIdx (min i j):=by rcases AaB hij with g|g;rw[AaQ (by omega),AYg (by omega)];exact LL _ i j g rings 0 (by omega) fun k _=>AZh.2 (by simp only[AXf,AY9,AZx];omega);rw[Nat.max_eq_left (by omega),AaR (by omega)];exact LL _ j i g rings 0 (by omega) fun k _=>AZh.2 (by simp only[AXf,AY9,AZx];omega)
 have hrl:((rings.eraseIdx (max i j)).eraseIdx (min i j)).length≤rings.length:=hsub.length_le;generalize (rings.eraseIdx (max i j)).eraseIdx (min i j)=rest at *;have hupr:rest.Pairwise (fun a b=>hd a<hd b):=h.up.sublist hsub;have hner:∀ l∈rest,l≠[]:=fun l hl=>(h.rg l (hsub.subset hl)).2.1;have hdd:=KJ hperm h.dis;rw[AYP,AYP]at hdd;have hheads:∀ x∈rest,hd x≠hd (plain (Bw n A B u v)):=by intro x hx e;have g1:=Nj hRG;have g2:=(l3 _ g1.2.2.2).1 (hrot.perm.mem_iff.2 (SY hRG.2.1));have g3:hd (plain (Bw n A B u v))∈x:=e▸SY (hner x hx);rcases g2 with g|g;exact hdd.1 x (by simp[hx]) _ g g1.2.2.2 g3;exact hdd.2.1 x hx _ g g1.2.2.2 g3
 have hup:=ADd hupr hheads;have hpz:=dU rest (plain (Bw n A B u v));refine⟨XS rest (plain (Bw n A B u v)),rest,?_,AFi h hperm hRG (fun t ht=>by rw[← hrot.perm.mem_iff];exact l3 t ht) hpz hup,hperm,hpz,hdis⟩;obtain⟨ys,y1,y2,y3⟩:=cJ n rings [(i:Int),(j:Int)] [Bw n A B u v] hD.1 (by simp) (by simp) (fun l hl=>(h.rg l hl).2.1) (by simp;exact hRG.2.1);have hys:ys=XS rest (plain (Bw n A B u v)):=by refine TD hup (y2.trans ?_) y3;rw[hdrop];exact(AZQ (l₁:=rest) (l₂:=[plain (Bw n A B u v)])).trans hpz.symm
 rw[hys]at y1;rw[IB,I5];have s1:Cv (Bo A u) (0:Int) (1:Int)=some [u]:=by have:=iq (xs:=Bo A u) (l:=0) (h:=1) (by omega) (by rw[l2];simp);rw[l2]at this ⊢;exact this
 have s2:Cv (Bo A u) (1:Int) (A4 (Bo A u))=some (Bo A u).tail:=by have:=ID (xs:=Bo A u) (l:=1) (by rw[l2];simp);rw[AY8]at this;exact this
 have d1:E' 0 (A3 (A4 [u])) (Bo A u)=[u]:=by rw[l2];rfl
 have d2:E' 1 (A3 (A4 (Bo A u).tail)) (Bo A u)=(Bo A u).tail:=by rw[E',A8,Mj,AY8,AZJ]
 have hcat:He ([[u],[En n u v],Bo B v,[En n v u],(Bo A u).tail],())=some (Bw n A B u v,()):=by rw[Ms _ (by simp) (by simp;omega)];simp[Bw]
 have ne:((i:Int))≠(j:Int):=by omega
 simp only[H4 n rings u v hD,hRF,iu,iv,and_self,AX9,Be,Kg n rings _ hD.1 (fun l hl=>(hD.2 l hl).1),pu,pv,ne,AXi,AXu,AXh,BK hi,BK hj,dQ,JR,rA.1,rB.1,hu,hv,s1,s2,oT,d1,d2,hcat,y1]
theorem AAK{n:Int}{rings:List (List Int)}{u v:Int}(h:FR n rings)(iu:In n u)(iv:In n v)(hp:plc rings u=plc rings v):
  Nu ((n,(rings,())),u,v,())=some (n,rings,5,()):=by have hD:=h.dom;have hRF:=M0.2 h;rw[IB,I5];simp only[H4 n rings u v hD,hRF,iu,iv,and_self,AX9,Be,Kg n rings _ hD.1 (fun l hl=>(hD.2 l hl).1),hp,AXi,AXh]
end Go.Pev.Pl
end
section
namespace Go.Pev.Pl
open Tok
def PF(rings:List (List Int))(a b:Int):Prop:=∃ A∈rings,a∈A∧b∈A
structure FC(n:Int)(rings:List (List Int))(l:List Edge):Prop where
 fr:FR n rings
 sam:∀ a b,In n a→In n b→(PF rings a b↔Con l a b)
 arcs:∀ A∈rings,∀ u v,okT n (.arc u v)→En n u v∈A→∃ e∈l,(e.1=u∧e.2.1=v)∨(e.1=v∧e.2.1=u)
theorem FR.AMl{n:Int}{rings:List (List Int)}(h:FR n rings){a b:Int}(ia:In n a)(ib:In n b):plc rings a=plc rings b↔PF rings a b:=by
 obtain⟨i,A,pa,hi,ha,_⟩:=OR (h.cov a ia);obtain⟨j,B,pb,hj,hb,_⟩:=OR (h.cov b ib);rw[pa,pb];constructor;intro e;have:i=j:=by omega
 subst this;rw[hi]at hj;cases hj;exact⟨A,AXk hi,ha,hb⟩;rintro⟨K,hK,h1,h2⟩;obtain⟨k,hk⟩:∃ k:Nat,rings[k]? = some K:=by obtain⟨k,hk,rfl⟩:=AYs hK;exact⟨k,AXj hk⟩
 rw[h.uniq hi hk ia.2.2.2 ha h1,h.uniq hj hk ib.2.2.2 hb h2]
theorem FR.one{n:Int}{rings:List (List Int)}(h:FR n rings){A B:List Int}(hA:A∈rings)(hB:B∈rings){v:Int}(iv:v<n)(h1:v∈A)(h2:v∈B):A=B:=by obtain⟨i,hi,rfl⟩:=AYs hA;obtain⟨j,hj,rfl⟩:=AYs hB;have:=h.uniq (AXj hi) (AXj hj) iv h1 h2;subst this;rfl
theorem PF.perm{a b:List (List Int)}(h:a.Perm b)(x y:Int):PF a x y↔PF b x y:=by constructor;rintro⟨A,hA,h1⟩;exact⟨A,h.mem_iff.1 hA,h1⟩;rintro⟨A,hA,h1⟩;exact⟨A,h.mem_iff.2 hA,h1⟩
theorem AJH{n u v x y:Int}{A B:List Int}(hA:TI n A)(hB:TI n B)(hu:u∈A)(hv:v∈B)(iu:In n u)(iv:In n v)(hd:Dis n A B)(ho:okT n (.arc x y))(h:En n x y∈Bw n A B u v):En n x y∈A∨En n x y∈B∨(x=u∧y=v)∨(x=v∧y=u):=by obtain⟨_,l2,_,huv,ho2⟩:=NV hA hB hu hv iu iv hd;have pA:=(DQ hu).perm;have pB:=(DQ hv).perm;have g:=lf ho;rw[Bw,AXf,AXf,AXq,AXf]at h;rcases h with h|h|h|h|h;have:=iu.2.2.2;omega;rw[Fl ho,Fl ho2]at h;have:=Gi ho ho2 h;cases this;exact .inr (.inr (.inl ⟨rfl,rfl⟩));exact .inr (.inl (pB.mem_iff.2 h));rw[Fl ho,Fl (FT ho2)]at h;have:=Gi ho (FT ho2) h;cases this;exact .inr (.inr (.inr ⟨rfl,rfl⟩));refine .inl (pA.mem_iff.2 ?_);rw[l2];exact AXx _ h
theorem AFj{n:Int}{rings:List (List Int)}{l:List Edge}{e:Edge}(h:FC n rings l)(iu:In n e.1)(iv:In n e.2.1):
  ∃ zs q,Nu ((n,(rings,())),e.1,e.2.1,())=some (n,zs,q,())∧FC n zs (l++[e])∧(q=0∧zs.length+1=rings.length∨q=5∧zs=rings):=by
 have hF:=h.fr;obtain⟨i,A,pu,hi,hu,_⟩:=OR (hF.cov _ iu);obtain⟨j,B,pv,hj,hv,_⟩:=OR (hF.cov _ iv);have mA:=AXk hi;have mB:=AXk hj;by_cases hij:i=j;have hpe:plc rings e.1=plc rings e.2.1:=by rw[pu,pv,hij]
 refine⟨rings,5,AAK hF iu iv hpe,⟨hF,fun a b ia ib => ?_,fun A hA u v ho hm => ?_⟩,.inr ⟨rfl,rfl⟩⟩;rw[h.sam a b ia ib,Con.snoc];have hc:Con l e.1 e.2.1:=(h.sam _ _ iu iv).1 ((hF.AMl iu iv).1 hpe);constructor;exact .inl;rintro (g|⟨g1,g2⟩|⟨g1,g2⟩);exact g;exact g1.trans (hc.trans g2);exact g1.trans (hc.symm.trans g2);obtain⟨e',h1,h2⟩:=h.arcs A hA u v ho hm;exact⟨e',by simp[h1],h2⟩;obtain⟨zs,rest,q1,q3,q4,q5,q6⟩:=ATE hF iu iv hi hj hu hv hij;have gA:=hF.rg A mA;have gB:=hF.rg B mB;obtain⟨l1,l2,l3,huv,ho⟩:=NV gA.2.2.2 gB.2.2.2 hu hv iu iv q6;obtain⟨hRG,hrot⟩:=ZS l1;have len1:=q4.length_eq;have len2:=q5.length_eq;simp only[AXg]at len1 len2;refine⟨zs,0,q1,⟨q3,fun a b ia ib => ?_,fun K hK x y hxy hm => ?_⟩,.inl ⟨rfl,by omega⟩⟩;rw[PF.perm q5,Con.snoc,← h.sam a b ia ib,← h.sam a _ ia iu,← h.sam _ b iv ib,← h.sam a _ ia iv,← h.sam _ b iu ib];have pmem:∀ x,In n x→(x∈plain (Bw n A B e.1 e.2.1)↔x∈A∨x∈B):=fun x ix=>by rw[← hrot.perm.mem_iff];exact l3 x ix.2.2.2
 have sA:∀ x,In n x→(PF rings x e.1↔x∈A):=fun x ix=>by constructor;rintro⟨K,hK,h1,h2⟩;rw[hF.one mA hK iu.2.2.2 hu h2];exact h1;intro hx;exact⟨A,mA,hx,hu⟩
 have sB:∀ x,In n x→(PF rings x e.2.1↔x∈B):=fun x ix=>by constructor;rintro⟨K,hK,h1,h2⟩;rw[hF.one mB hK iv.2.2.2 hv h2];exact h1;intro hx;exact⟨B,mB,hx,hv⟩
 have sy:∀ x y,PF rings x y↔PF rings y x:=fun x y=>⟨fun ⟨K,a,b,c⟩=>⟨K,a,c,b⟩,fun ⟨K,a,b,c⟩=>⟨K,a,c,b⟩⟩
 rw[sA a ia,sB a ia,sy e.2.1 b,sB b ib,sy e.1 b,sA b ib];have hs:PF rings a b↔(a∈A∧b∈A)∨(a∈B∧b∈B)∨∃ K∈rest,a∈K∧b∈K:=by rw[PF.perm q4];simp only[PF,AXf,exists_eq_or_imp]
 have hz:PF (plain (Bw n A B e.1 e.2.1)::rest) a b↔((a∈A∨a∈B)∧(b∈A∨b∈B))∨∃ K∈rest,a∈K∧b∈K:=by simp only[PF,AXf,exists_eq_or_imp,pmem a ia,pmem b ib]
 rw[hs,hz];constructor;rintro (⟨h1|h1,h2|h2⟩|h);exact .inl (.inl ⟨h1,h2⟩);exact .inr (.inl ⟨h1,h2⟩);exact .inr (.inr ⟨h1,h2⟩);exact .inl (.inr (.inl ⟨h1,h2⟩));exact .inl (.inr (.inr h));rintro ((⟨h1,h2⟩|⟨h1,h2⟩|h)|⟨h1,h2⟩|⟨h1,h2⟩);exact .inl ⟨.inl h1,.inl h2⟩;exact .inl ⟨.inr h1,.inr h2⟩;exact .inr h;exact .inl ⟨.inl h1,.inr h2⟩;exact .inl ⟨.inr h1,.inl h2⟩;have old:∀ K∈rings,En n x y∈K→∃ e'∈l++[e],(e'.1=x∧e'.2.1=y)∨(e'.1=y∧e'.2.1=x):=fun K hK hm=>by obtain⟨e',h1,h2⟩:=h.arcs K hK x y hxy hm;exact⟨e',by simp[h1],h2⟩
 rcases AXf.1 (q5.mem_iff.1 hK)with rfl|hK;rcases AJH gA.2.2.2 gB.2.2.2 hu hv iu iv q6 hxy (hrot.perm.mem_iff.2 hm)with g|g|⟨g1,g2⟩|⟨g1,g2⟩
 exact old A mA g;exact old B mB g;exact⟨e,by simp,.inl ⟨g1.symm,g2.symm⟩⟩;exact⟨e,by simp,.inr ⟨g2.symm,g1.symm⟩⟩;exact old K (q4.mem_iff.2 (by simp[hK])) hm
theorem ZW{N:Nat}(h1:1≤N)(h2:N≤64):FC (N:Int) (CF N) []:=by
 have hS:∀ A∈CF N,∃ k:Nat,k<N∧A=[(k:Int)]:=fun A hA=>by simp only[CF,AYE,AYS]at hA;obtain⟨k,hk,rfl⟩:=hA;exact⟨k,hk,rfl⟩
 have key:∀ k,k<N→In (N:Int) (k:Int):=fun k hk=>⟨by omega,by omega,by omega,by omega⟩
 refine⟨⟨⟨by omega,by omega⟩,fun l hl => ?_,?_,?_,fun v hv => ?_⟩,fun a b ia ib => ?_,fun A hA u v ho hm => ?_⟩;obtain⟨k,hk,rfl⟩:=hS l hl;refine⟨⟨by simp,fun x hx => ?_,by simp⟩,by simp,rfl,(ARC (N:Int) k).2 (key k hk)⟩;simp only[AYB]at hx;omega;rw[CF,AZG];exact List.pairwise_lt_range.imp fun h=>by simp only[hd,AZn];omega
 rw[CF,AZG];exact List.pairwise_lt_range.imp fun {a b} h t ht _ ht2=>by simp only[AYB]at ht ht2;omega
 obtain⟨k,rfl⟩:=AXr hv.2.2.1;have:=hv.2.2.2;exact⟨[(k:Int)],by simp only[CF,AYE,AYS];exact⟨k,by omega,rfl⟩,by simp⟩;constructor;rintro⟨A,hA,h1,h2⟩;obtain⟨k,_,rfl⟩:=hS A hA;simp only[AYB]at h1 h2;rw[h1,h2];exact .refl _;intro hc;have:=hc.nil;subst this;obtain⟨k,rfl⟩:=AXr ia.2.2.1;have:=ia.2.2.2;exact⟨[(k:Int)],by simp only[CF,AYE,AYS];exact⟨k,by omega,rfl⟩,by simp,by simp⟩;obtain⟨k,hk,rfl⟩:=hS A hA;simp only[AYB]at hm;have:=lf ho;omega
theorem Yt(l:List Edge)(hs:l.length<1073741824):ends (l,())=some (l.flatMap fun e=>[e.1,e.2.1],()):=by
 rw[AE7,AAf]
 have e:=Ct (step:=Qv) (fun i (a:List Int)=>(a,l,A4 l,(i:Int),())) l (fun x a=>.inl (a++[x.1,x.2.1])) (fun a=>.inl (a,())) (fun i a=>a.length=2*i) (by omega)
  (fun i x a hi hx h1=>by
   refine⟨fun m' h' => ?_,fun r h'=>by cases h'⟩
   cases h'
   rw[Qv,A8,A_,AXb hi]
   simp only[BK hx]
   rw[A' (by omega),Bt (by simp only[A8,AXg,AXs];omega)]
   exact⟨rfl,by simp;omega⟩)
  (fun a _=>by rw[Qv,A8,A_,AXZ (by omega)]) [] rfl
 have e':A9 Qv many ([],l,A4 l,(0:Int),())=_:=e;rw[e',B0];have hf:∀ (xs:List Edge) (acc:List Int),xs.foldl (fun a x=>a++[x.1,x.2.1]) acc=acc++xs.flatMap fun e=>[e.1,e.2.1]:=by
  intro xs;induction xs with
   |nil=>intro acc;simp
   |cons x xs ih=>intro acc;rw[AYI,ih,AY4];simp
 rw[hf];rfl
theorem sj(n:Int)(l:List Edge):((l.flatMap fun e=>[e.1,e.2.1]).all fun v=>decide (In n v))=l.all fun e=>decide (In n e.1∧In n e.2.1):=by
 induction l with
  |nil=>rfl
  |cons e l ih=>rw[AY4,List.all_append,List.all_cons,ih];simp
theorem si(l:List Edge):(l.flatMap fun e=>[e.1,e.2.1]).length=2*l.length:=by
 induction l with
  |nil=>rfl
  |cons e l ih=>rw[AY4,AXn,ih];simp;omega
theorem AAH{n:Int}(l:List Edge)(hs:l.length<1073741824)(ha:∀ e∈l,In n e.1∧In n e.2.1):
  ∀ (m i cnt:Nat) (rings:List (List Int)) (taken:List Bool),i+m=l.length→taken.length=i→FC n rings (l.take i)→m<cnt →
  ∃ zs taken',BE DP cnt (n,rings,(0:Int),taken,l,(l.length:Int),(i:Int),())=some (.inl (n,zs,(0:Int),taken',()))∧FC n zs l∧taken'.length=l.length:=by
 intro m;induction m with
  |zero=>
   intro i cnt rings taken hi ht h hc;obtain⟨cnt,rfl⟩:∃ c,cnt=c+1:=⟨cnt-1,by omega⟩
   rw[AY7 (by omega)]at h;refine⟨rings,taken,?_,h,by omega⟩;rw[BE,DP,A_,AXZ (by omega)]
  |succ m ih=>
   intro i cnt rings taken hi ht h hc;obtain⟨cnt,rfl⟩:∃ c,cnt=c+1:=⟨cnt-1,by omega⟩
   have hi':i<l.length:=by omega
   have hx:l[i]? = some l[i]:=AXj hi';obtain⟨iu,iv⟩:=ha _ (AYp hi');obtain⟨zs,q,e1,e2,_⟩:=AFj h iu iv;rw[BE,DP,A_,AXb hi'];simp only[BK hx,e1];rw[A' (by omega),Bt (by simp only[A8,AXg,AXs];omega)];rw[← AZe hi']at e2;exact ih (i+1) cnt zs _ (by omega) (by simp[Dt,ht]) e2 (by omega)
theorem AT3(k:Int)(l:List Edge)(hk:Sz k)(hs:l.length<1073741824):
  ((∀ e∈l,In k e.1∧In k e.2.1)∧∃ rings,fof (k,l,())=some ((k,(rings,())),0,())∧FC k rings l) ∨
  (¬ (∀ e∈l,In k e.1∧In k e.2.1)∧fof (k,l,())=some ((0,([],())),10,())):=by
 have hmany:9223372036854775808<many:=by simp only[many];omega
 rw[AAZ,AE2];have hm:HZ k=(k,CF k.toNat,0,()):=by rw[HZ,AXp hk]
 obtain⟨s1,s2⟩:=hk;obtain⟨N,rfl⟩:=AXr (show 0≤k by omega);have h0:=ZW (N:=N) (by omega) (by omega);have hD:=h0.fr.dom;have hRF:=M0.2 h0.fr;have hfl:=si l;have hth:MZ (((N:Int),(CF N,())),l.flatMap fun e=>[e.1,e.2.1],())=some (if ∀ e∈l,In (N:Int) e.1∧In (N:Int) e.2.1 then 0 else 10,()):=by rw[Yk _ _ _ hD (by omega),sj,uD,AXp hRF];by_cases ha:∀ e∈l,In (N:Int) e.1∧In (N:Int) e.2.1;rw[AXp ha,AXp (AXy.2 fun e he=>AXb (ha e he))];rw[AXo ha,AXo];intro hc;exact ha fun e he=>AZq (AXy.1 hc e he)
 simp only[cV,hm,AYG,G1,AXh];rw[Sc,Qo,Mi,LK];by_cases ha:∀ e∈l,In (N:Int) e.1∧In (N:Int) e.2.1;refine .inl ⟨ha,?_⟩;rw[AXp ha]at hth;obtain⟨zs,taken,e1,e2,_⟩:=AAH l hs ha l.length 0 many (CF N) [] (by omega) rfl (by rw[List.take_zero];exact h0) (by omega);have e1':BE DP many ((N:Int),CF N,(0:Int),[],l,(l.length:Int),(0:Int),())=_:=e1;simp only[Yt l hs,hth,G1,AXh,Bf,A8,e1'];exact⟨zs,rfl,e2⟩;refine .inr ⟨ha,?_⟩;rw[AXo ha]at hth;simp only[Yt l hs,hth,Be];rfl
end Go.Pev.Pl
end
section
namespace Go.Pev.Pl
open Tok
def cl(out:List Int)(v:Int):Int:=out.getD v.toNat 0
def CI(N:Nat)(l:List Edge)(out:List Int):Prop:=out.length=N∧∀ k,k<N→0≤out.getD k 0∧out.getD k 0≤(k:Int)∧Con l (k:Int) (out.getD k 0)
theorem AC3:∀ (l:List Int) (k:Nat) (x:Int),k<l.length→(l.set k x).sum=l.sum-l.getD k 0+x:=by
 intro l;induction l with
  |nil=>intro k x h;simp at h
  |cons y l ih=>
   intro k x h;cases k with
    |zero=>simp;omega
    |succ k=>have:=ih k x (by simpa using h);simp only[List.set_cons_succ,List.sum_cons,List.getD_cons_succ,this];omega
theorem OK{N:Nat}{l:List Edge}{out:List Int}(h:CI N l out)(hN:N≤64):0≤out.sum∧out.sum≤4096:=by
 obtain⟨h1,h2⟩:=h;have key:∀ (xs:List Int),(∀ x∈xs,0≤x∧x≤64)→0≤xs.sum∧xs.sum≤64*(xs.length:Int):=by
  intro xs;induction xs with
   |nil=>intro _;simp
   |cons x xs ih=>intro h;have h3:=ih fun y hy=>h y (AXx _ hy);have h4:=h x (by simp);simp only[List.sum_cons,AXg];omega
 have:=key out fun x hx=>by obtain⟨k,hk,rfl⟩:=AYs hx;have h5:=h2 k (by omega);rw[AXe,AXj hk,AX5]at h5;omega
 omega
theorem AWk(N:Nat)(l:List Edge)(hs:l.length<1073741824)(ha:∀ e∈l,In (N:Int) e.1∧In (N:Int) e.2.1):
  ∀ (m i cnt:Nat) (out:List Int) (more:Bool),i+m=l.length→CI N l out→m<cnt →
  ∃ out' more',BE Fh cnt ((N:Int),l,out,more,(i:Int),())=some (.inl ((N:Int),l,out',more',()))∧CI N l out' ∧
   ((more'=more∧out'=out∧∀ e∈l.drop i,cl out e.1=cl out e.2.1)∨(more'=true∧out'.sum<out.sum)):=by
 intro m;induction m with
  |zero=>
   intro i cnt out more hi h hc;obtain⟨cnt,rfl⟩:∃ c,cnt=c+1:=⟨cnt-1,by omega⟩
   refine⟨out,more,?_,h,.inl ⟨rfl,rfl,?_⟩⟩;rw[BE,Fh,A8,A_,AXZ (by omega)];rw[AYa (by omega)];intro e he;cases he
  |succ m ih=>
   intro i cnt out more hi h hc;obtain⟨cnt,rfl⟩:∃ c,cnt=c+1:=⟨cnt-1,by omega⟩
   have hi':i<l.length:=by omega
   have hx:l[i]? = some l[i]:=AXj hi';have hm:=AYp hi';have hdr:l.drop i=l[i]::l.drop (i+1):=AYH hi';rw[BE,Fh,A8,A_,AXb hi'];simp only[BK hx];rw[hdr,A' (by omega)];generalize l[i]=e at *;obtain⟨iu,iv⟩:=ha e hm;have hcon:=Con.edge e hm;obtain⟨eu,ev,eu'⟩:=e;simp only at iu iv hcon ⊢;obtain⟨u,rfl⟩:=AXr iu.2.2.1;obtain⟨v,rfl⟩:=AXr iv.2.2.1;have hu:u<N:=by have:=iu.2.2.2;omega
   have hv:v<N:=by have:=iv.2.2.2;omega
   have hul:u<out.length:=by rw[h.1];exact hu
   have hvl:v<out.length:=by rw[h.1];exact hv
   rw[BM,AXZ (by omega)];simp only[];rw[BM,AXZ (by omega)];simp only[];rw[BZ,AXZ (by omega)];simp only[];rw[BZ,AXZ (by omega)];simp only[Es (0:Int) hul,Es (0:Int) hvl,LM,ko,Be];by_cases hq:out.getD u 0=out.getD v 0;rw[AXb hq];obtain⟨out',more',e1,e2,e3⟩:=ih (i+1) cnt out more (by omega) h (by omega);refine⟨out',more',e1,e2,?_⟩;rcases e3 with⟨g1,g2,g3⟩|g;refine .inl ⟨g1,g2,fun e' he' => ?_⟩;rcases AXf.1 he' with rfl|he';simpa [cl]using hq;exact g3 e' he';exact .inr g;rw[AXZ hq];have hne:u≠v:=by rintro rfl;exact hq rfl
   have hlow:Cb (out.getD u 0) (out.getD v 0)=if out.getD v 0<out.getD u 0 then out.getD v 0 else out.getD u 0:=rfl
   generalize hlw:Cb (out.getD u 0) (out.getD v 0)=low at *;have hvl2:v<(out.set u low).length:=by simp;exact hvl
   simp only[Es (0:Int) hvl2];have cu:=h.2 u hu;have cv:=h.2 v hv;have hset:∀ k,k<N→((out.set u low).set v low).getD k 0=if k=u∨k=v then low else out.getD k 0:=by
    intro k hk;have hkl:k<out.length:=by rw[h.1];exact hk
    by_cases k2:k=v;subst k2;simp[AXe,hkl];by_cases k1:k=u;subst k1;rw[AXp (.inl rfl),AXe,AYo (AYm k2)];simp[hkl];rw[AXo (by omega),AXe,AYo (AYm k2),AYo (AYm k1),AXe]
   have hlc:0≤low∧low≤(u:Int)∧low≤(v:Int)∧Con l (u:Int) low:=by rw[hlow];split;exact⟨cv.1,by omega,cv.2.1,hcon.trans cv.2.2⟩;exact⟨cu.1,cu.2.1,by omega,cu.2.2⟩
   have hI:CI N l ((out.set u low).set v low):=by refine⟨by simp[h.1],fun k hk => ?_⟩;rw[hset k hk];split;rename_i hkk;rcases hkk with rfl|rfl;exact⟨hlc.1,hlc.2.1,hlc.2.2.2⟩;exact⟨hlc.1,hlc.2.2.1,hcon.symm.trans hlc.2.2.2⟩;exact h.2 k hk
   have hsum:((out.set u low).set v low).sum<out.sum:=by
    rw[AC3 _ _ _ hvl2,AC3 _ _ _ hul];have:(out.set u low).getD v 0=out.getD v 0:=by rw[AXe,AYo hne,← AXe]
    rw[this,hlow];split<;>omega
   obtain⟨out',more',e1,e2,e3⟩:=ih (i+1) cnt _ true (by omega) hI (by omega);refine⟨out',more',e1,e2,.inr ?_⟩;rcases e3 with⟨g1,g2,_⟩|⟨g1,g2⟩
   exact⟨g1,by rw[g2];exact hsum⟩;exact⟨g1,by omega⟩
theorem AVK(N:Nat)(hN:N≤64)(l:List Edge)(hs:l.length<1073741824)(ha:∀ e∈l,In (N:Int) e.1∧In (N:Int) e.2.1):
  ∀ (m cnt:Nat) (out:List Int),out.sum.toNat=m→CI N l out→m+1<cnt →
  ∃ out',BE Hf cnt ((N:Int),l,out,true,())=some (.inl (out',()))∧CI N l out'∧∀ e∈l,cl out' e.1=cl out' e.2.1:=by
 have hmany:9223372036854775808<many:=by simp only[many];omega
 intro m;induction m using Nat.strongRecOn with
  |_ m ih=>
   intro cnt out hm h hc;obtain⟨cnt,rfl⟩:∃ c,cnt=c+1:=⟨cnt-1,by omega⟩
   rw[BE,Hf];obtain⟨out',more',e1,e2,e3⟩:=AWk N l hs ha l.length 0 many out false (by omega) h (by omega);have e1':BE Fh many ((N:Int),l,out,false,(0:Int),())=_:=e1;simp only[Bf,e1'];rcases e3 with⟨g1,g2,g3⟩|⟨g1,g2⟩
   subst g1 g2;obtain⟨cnt,rfl⟩:∃ c,cnt=c+1:=⟨cnt-1,by omega⟩
   rw[BE,Hf];exact⟨_,rfl,e2,by simpa using g3⟩;subst g1;have b1:=OK h hN;have b2:=OK e2 hN;exact ih out'.sum.toNat (by omega) cnt out' rfl e2 (by omega)
structure nZ(n:Int)(l:List Edge)(out:List Int):Prop where
 len:(out.length:Int)=n
 same:∀ a b,In n a→In n b→(cl out a=cl out b↔Con l a b)
 isin:∀ a,In n a→In n (cl out a)
 con:∀ a,In n a→Con l a (cl out a)
 least:∀ a b,In n a→In n b→Con l a b→cl out a≤b
theorem Gl(n:Int)(l:List Edge)(hn:Sz n)(hs:l.length<1073741824)(ha:∀ e∈l,In n e.1∧In n e.2.1):∃ out,Nh (n,l,())=some (out,())∧nZ n l out:=by
 have hmany:9223372036854775808<many:=by simp only[many];omega
 obtain⟨s1,s2⟩:=hn;obtain⟨N,rfl⟩:=AXr (show 0≤n by omega);rw[Q5,Mx];have key:∀ (m k cnt:Nat),k+m=N→m<cnt→BE Fi cnt ((N:Int),l,(List.range k).map (fun(k:Nat)=>(k:Int)),(k:Int),())=some (.inl ((N:Int),l,(List.range N).map (fun(k:Nat)=>(k:Int)),())):=by
  intro m;induction m with
   |zero=>
    intro k cnt hk hc;obtain⟨cnt,rfl⟩:∃ c,cnt=c+1:=⟨cnt-1,by omega⟩
    have:k=N:=by omega
    subst this;rw[BE,Fi,A_,AXZ (by omega)]
   |succ m ih=>
    intro k cnt hk hc;obtain⟨cnt,rfl⟩:∃ c,cnt=c+1:=⟨cnt-1,by omega⟩
    have hih:=ih (k+1) cnt (by omega) (by omega);rw[AYZ,AZO]at hih;rw[BE,Fi,A_,AXb (by omega)];simp only[];rw[A' (by omega),Bt (by simp only[A8,AXg,AXs,AYU,AX1];omega)];exact hih
 have e0:=key N 0 many (by omega) (by omega);have e0':BE Fi many ((N:Int),l,[],(0:Int),())=_:=e0;have h0:CI N l ((List.range N).map (fun(k:Nat)=>(k:Int))):=by
  refine⟨by simp,fun k hk => ?_⟩;have:((List.range N).map (fun(k:Nat)=>(k:Int))).getD k 0=(k:Int):=by simp[AXe,hk]
  rw[this];exact⟨by omega,by omega,.refl _⟩
 have hb:=OK h0 (by omega);obtain⟨out,e1,e2,e3⟩:=AVK N (by omega) l hs ha _ many _ rfl h0 (by omega);simp only[Bf,e0',e1];have fact:∀ a,In (N:Int) a→0≤cl out a∧cl out a≤a∧Con l a (cl out a):=by intro a hia;obtain⟨k,rfl⟩:=AXr hia.2.2.1;have:=e2.2 k (by have:=hia.2.2.2;omega);simpa [cl]using this
 refine⟨out,rfl,by rw[e2.1],fun a b ia ib=>⟨fun h => ?_,fun h=>h.const e3⟩,fun a ia => ?_,fun a ia=>(fact a ia).2.2,fun a b ia ib h => ?_⟩;have h1:=(fact a ia).2.2;have h2:=(fact b ib).2.2;rw[← h]at h2;exact h1.trans h2.symm;have:=fact a ia;have h3:=ia.2.2.2;exact⟨s1,s2,by omega,by omega⟩;have h1:cl out a=cl out b:=h.const e3;have:=(fact b ib).2.1;omega
end Go.Pev.Pl
end
end
section
namespace Go.Pev.Pl
def Low(l:List Edge)(k:Nat):Prop:=∀ j:Nat,j<k→¬ Con l (j:Int) (k:Int)
noncomputable def ATD(l:List Edge)(k:Nat):Bool:=@decide (Low l k) (Classical.propDecidable _)
theorem AOi(l:List Edge)(k:Nat):ATD l k=true↔Low l k:=by unfold ATD;exact @decide_eq_true_iff _ (Classical.propDecidable _)
noncomputable def cc(N:Nat)(l:List Edge):Nat:=(List.range N).countP (ATD l)
noncomputable def AW5(l:List Edge)(a b:Int):Bool:=@decide (Con l a b) (Classical.propDecidable _)
theorem AW6(N:Nat)(l:List Edge):cc N l≤N:=by unfold cc;have:=List.countP_le_length (p:=ATD l) (l:=List.range N);rw[AX1]at this;exact this
def InE(N:Nat)(e:Edge):Prop:=(0≤e.1∧e.1<(N:Int))∧(0≤e.2.1∧e.2.1<(N:Int))
noncomputable def gfl:List Edge→List Edge→List Bool
 |_,[]=>[]
 |b,x::xs=>(!AW5 b x.1 x.2.1)::gfl (b++[x]) xs
def Fo(N:Nat)(l:List Edge):Prop:=cc N l+l.length=N
end Go.Pev.Pl
end
section
namespace Go.Pev.Pl
abbrev Tie:=Int×Int×Int×Bool×Unit
abbrev zT:Tie:=(0,0,0,false,())
def ahead(p x:Tie):Prop:=p.1<x.1∨(p.1=x.1∧p.2.1<x.2.1)
instance (p x:Tie):Decidable (ahead p x):=inferInstanceAs (Decidable (_∨_))
def ed(t:Tie):Edge:=(t.1,t.2.1,())
def trk(ts:List Tie)(k:Int):List Edge:=(ts.filter fun t=>t.2.2.2.1&&decide (k≤t.2.2.1)).map ed
theorem ATA{ts:List Tie}{k:Int}{e:Edge}:e∈trk ts k↔∃ t∈ts,t.2.2.2.1=true∧k≤t.2.2.1∧ed t=e:=by unfold trk;simp only[AYE,AY6,AXd,AXc];constructor;rintro⟨t,⟨h1,h2,h3⟩,h4⟩;exact⟨t,h1,h2,h3,h4⟩;rintro⟨t,h1,h2,h3,h4⟩;exact⟨t,⟨h1,h2,h3⟩,h4⟩
noncomputable def csz(N:Nat)(l:List Edge)(v:Int):Nat:=(List.range N).countP fun(w:Nat)=>AW5 l v (w:Int)
end Go.Pev.Pl
end
section
namespace Go.Pev.Pl
def AVd(top:Int)(t:Tie):Tie:=(t.1,t.2.1,min top (t.2.2.1+1),t.2.2.2.1,())
def both(S:Int→Bool)(t:Tie):Bool:=S t.1&&S t.2.1
def AW4(S:Int→Bool)(t:Tie):Prop:=S t.1≠S t.2.1
instance (S:Int→Bool)(t:Tie):Decidable (AW4 S t):=inferInstanceAs (Decidable (_≠_))
def rB(S:Int→Bool)(top i:Int)(t:Tie):Tie:=if t.2.2.1=i∧both S t=true then AVd top t else t
section
variable {N:Nat} {top:Int} {O:List Tie} {S:Int→Bool} {i:Int} {c:Int}
variable (hS:∀ a b,Con (trk O i) a b→S a=S b)
include hS
end
end Go.Pev.Pl
end
section
namespace Go.Pev.Pl
theorem xI(A B:List Tie)(k:Int):trk (A++B) k=trk A k++trk B k:=by unfold trk;rw[AZl,AZO]
structure Snd(N:Nat)(top:Int)(O:List Tie):Prop where
 lvl:∀ x∈O,0≤x.2.2.1∧x.2.2.1≤top
 ins:∀ x∈O,InE N (ed x)
 fo:Fo N (trk O 0)
 lie:∀ x∈O,x.2.2.2.1=false→Con (trk O x.2.2.1) x.1 x.2.1
 halv:∀ k:Nat,(k:Int)≤top→∀ v:Nat,v<N→csz N (trk O k) v≤max 1 (N/2 ^ k)
structure AXI(N:Nat)(top:Int)(t:Edge)(j:Int)(O:List Tie):Prop where
 lvl:∀ x∈O,0≤x.2.2.1∧x.2.2.1≤top
 ins:∀ x∈O,InE N (ed x)
 it:InE N t
 fo:Fo N (trk O 0++[t])
 lie1:∀ x∈O,x.2.2.2.1=false→j≤x.2.2.1→Con (trk O x.2.2.1) x.1 x.2.1
 lie2:∀ x∈O,x.2.2.2.1=false→x.2.2.1<j→Con (trk O x.2.2.1++[t]) x.1 x.2.1
 halv:∀ k:Nat,(k:Int)≤top→∀ v:Nat,v<N→csz N (trk O k) v≤max 1 (N/2 ^ k)
 halt:∀ k:Nat,(k:Int)<j→(k:Int)≤top→∀ v:Nat,v<N→csz N (trk O k++[t]) v≤max 1 (N/2 ^ k)
structure AWh(N:Nat)(t:Edge)(i:Nat)(O:List Tie)(S:Int→Bool)(c:Nat):Prop where
 cN:c<N
 at_:t.1=(c:Int)∨t.2.1=(c:Int)
 side:∀ w:Nat,w<N→(S (w:Int)=true↔Con (trk O i) (c:Int) (w:Int))
 less:2*csz N (trk O i) (c:Int)≤csz N (trk O i) t.1+csz N (trk O i) t.2.1
section
variable {N:Nat} {top:Int} {t:Edge} {O:List Tie} {S:Int→Bool} {i c:Nat}
variable (hG:AXI N top t ((i:Int)+1) O) (hit:(i:Int)≤top) (hL:AWh N t i O S c)
include hG
include hit hL
include hL
end
end Go.Pev.Pl
end
section
namespace Go.Pev.Pl
end Go.Pev.Pl
end
section
namespace Go.Pev.Pl
end Go.Pev.Pl
end
section
section
namespace Go.Pev.Pl
structure UF(N:Nat)(s:List Int)(c:Int→Int):Prop where
 len:s.length=N
 lo:∀ k,k<N→0≤s.getD k 0∧s.getD k 0≤(k:Int)
 par:∀ k,k<N→c (s.getD k 0)=c (k:Int)
 root:∀ k,k<N→s.getD k 0=(k:Int)→c (k:Int)=(k:Int)
 le:∀ k,k<N→0≤c (k:Int)∧c (k:Int)≤(k:Int)
theorem ATf(a b:Int):Cb a b=min a b:=by unfold Cb;split<;>omega
theorem Kp{N i x:Nat}(h:(List.range N)[i]? = some x):x=i:=by rw[AYJ]at h;obtain⟨h1,h2⟩:=h;simpa using h2.symm
end Go.Pev.Pl
end
section
namespace Go.Pev.Pl
def sh(n:Int):Prop:=0≤n∧n≤65535
instance (n:Int):Decidable (sh n):=inferInstanceAs (Decidable (_∧_))
def tw(n:Int):List Int:=[n/256,n % 256]
theorem wrap_u8(n:Int):IntKind.wrap .u8 n=n % 256:=by simp[IntKind.wrap,IntKind.bits,IntKind.signed]
theorem ALl(n:Int):IntKind.wrap .u16 n=n % 65536:=by simp[IntKind.wrap,IntKind.bits,IntKind.signed]
theorem AXQ(n:Int):shr? .i64 n (8:Int)=some (n/256):=by rw[Rj,oe,AXo (by omega)];congr 1;show n.fdiv (2 ^ min (8:Int).toNat 64)=n/256;rw[show(2:Int) ^ min (8:Int).toNat 64=256 from by decide];exact AZR n (by omega)
theorem AVe{n:Int}(h:sh n):quo? .i64 n (256:Int)=some (n/256):=by obtain⟨h1,h2⟩:=h;rw[OQ,jZ,AXo (by omega),AYq h1,b9 (by omega)]
theorem AVQ{n:Int}(h:sh n):rem? n (256:Int)=some (n % 256):=by rw[XR,yU,AXo (by omega),AZz h.1]
end Go.Pev.Pl
end
section
namespace Go.Pev.Pl
theorem APe(n:Nat)(hn:n<4294967296):sF ((n:Int),())=some ([],()):=by
 have e0:w64 ((n:Int)-w64 ((0:Int)-0))=(n:Int):=by rw[BR (n:=(0:Int)-0) (by omega),BR (by omega)];omega
 rw[Yf,WH];simp only[e0,BM];rw[AXZ (by omega)];simp only[];by_cases h:0<n;rw[AXb (by omega)];have s1:Cv ([]:List Unit) (0:Int) (0:Int)=some []:=by rw[NN];rfl
 have s2:Cv (DD (A3 (n:Int)) (0:Int)) (0:Int) (0:Int)=some []:=by rw[NN,cn,AXp (by omega)];simp
 have s3:CZ (n:Int)=true:=(Hz _).2 (by omega);simp only[s1,s2,s3];rfl;rw[AXZ (by omega)]
theorem Ik{α:Type}{xss:List (List α)}{i:Nat}{x:List α}(h:xss[i]? = some x):(xss.take (i+1)).flatten=(xss.take i).flatten++x:=by rw[List.take_add_one,h];simp
theorem KG{α:Type}(xss:List (List α))(i:Nat):(xss.take i).flatten.length≤xss.flatten.length:=by
 conv=>rhs;rw[← AYK i xss,AZ2,AXn]
 omega
theorem ABK(xss:List (List Int))(hs:xss.length<4294967296)(h:xss.flatten.length<4294967296):He (xss,())=some (xss.flatten,()):=by
 rw[PA,Nf]
 have e:=Ct (step:=Dv) (fun i (a:Nat)=>(xss,(a:Int),xss,A4 xss,(i:Int),())) xss (fun x a=>.inl (a+x.length)) (fun a=>.inl (xss,(a:Int),())) (fun i a=>a=(xss.take i).flatten.length) (by omega)
  (fun i x a hi hx ha=>by
   refine⟨fun m' h' => ?_,fun r h'=>by cases h'⟩
   cases h'
   have h1:=Ik hx
   have h2:=KG xss (i+1)
   rw[h1,AXn]at h2
   rw[Dv]
   simp only[A8]
   rw[A_,AXb hi]
   simp only[BK hx]
   rw[wrap_add (by omega),A' (by omega),BM,AXZ (by omega)]
   exact⟨rfl,by rw[h1,AXn,ha]⟩)
  (fun a _=>by rw[Dv,A8,A_,AXZ (by omega)]) 0 rfl
 have e':A9 Dv many (xss,(0:Int),xss,A4 xss,(0:Int),())=_:=e;rw[e',B0];have hsum:∀ (l:List (List Int)) (a:Nat),l.foldl (fun a x=>a+x.length) a=a+l.flatten.length:=by
  intro l;induction l with
   |nil=>intro a;rfl
   |cons x l ih=>intro a;rw[AYI,ih,AYi,AXn];omega
 rw[hsum,AYQ];simp only[APe _ h]
 have g:=Ct (step:=Du) (fun i (a:List Int)=>(a,xss,A4 xss,(i:Int),())) xss (fun x a=>.inl (a++x)) (fun a=>.inl (a,())) (fun i a=>a=(xss.take i).flatten) (by omega)
  (fun i x a hi hx ha=>by
   refine⟨fun m' h' => ?_,fun r h'=>by cases h'⟩
   cases h'
   have h1:=Ik hx
   have h2:=KG xss (i+1)
   rw[h1,AXn]at h2
   rw[Du]
   simp only[A8]
   rw[A_,AXb hi]
   simp only[BK hx]
   rw[A' (by omega),Bt (by rw[ha];omega)]
   exact⟨rfl,by rw[h1,ha]⟩)
  (fun a _=>by rw[Du,A8,A_,AXZ (by omega)]) [] rfl
 have g':A9 Du many ([],xss,A4 xss,(0:Int),())=_:=g;rw[g',B0];have hcat:∀ (l:List (List Int)) (a:List Int),l.foldl (fun a x=>a++x) a=a++l.flatten:=by
  intro l;induction l with
   |nil=>intro a;simp
   |cons x l ih=>intro a;rw[AYI,ih,AYi,AZF]
 rw[hcat];rfl
abbrev Res:=Int×Int×List Int×Unit
def val(r:Res):Prop:=(0≤r.1∧r.1≤255)∧sh r.2.1∧sh (r.2.2.1.length:Int)∧∀ x∈r.2.2.1,sh x
instance (r:Res):Decidable (val r):=inferInstanceAs (Decidable (_∧_∧_∧_))
def enc(r:Res):List Int:=r.1::(tw r.2.1++(tw (r.2.2.1.length:Int)++r.2.2.1.flatMap tw))
def AJ1(r:Res):List Int×Int×Unit:=if val r then(enc r,0,())else([],1,())
theorem APt:∀ (xs:List Int) (a:List Int),xs.foldl (fun a x=>a++tw x) a=a++xs.flatMap tw:=by
 intro xs;induction xs with
  |nil=>intro a;simp
  |cons x xs ih=>intro a;rw[AYI,ih];simp
theorem AE8(r:Res):(enc r).length=5+2*r.2.2.1.length:=by
 have:∀ xs:List Int,(xs.flatMap tw).length=2*xs.length:=by
  intro xs;induction xs with
   |nil=>rfl
   |cons x xs ih=>rw[AY4,AXn,ih,AXg];simp[tw];omega
 simp[enc,tw,this];omega
end Go.Pev.Pl
end
section
namespace Go.Pev.Pl
theorem NZ(a:Int):ieq a a=true:=by rw[D_];simp
end Go.Pev.Pl
end
section
namespace Go.Pev.Pl
open Go.RowKit Tok
section
variable {n:Int} {rings:List (List Int)}
theorem sE{l:List Edge}{out:List Int}(h:FC n rings l)(hc:nZ n l out){A:List Int}{u:Int}(hA:A∈rings)(iu:In n u)(hu:u∈A):hd A=cl out u:=by have gA:=h.fr.rg A hA;have ih:=Nj gA;have hh:=SY gA.2.1;have h1:Con l u (hd A):=(h.sam u (hd A) iu ih).1 ⟨A,hA,hu,hh⟩;have h2:=hc.least u (hd A) iu ih h1;have h3:=hc.isin u iu;obtain⟨K,hK,k1,k2⟩:=(h.sam u _ iu h3).2 (hc.con u iu);have:=h.fr.one hA hK iu.2.2.2 hu k1;subst this;have h4:=(FI gA.2.1).2 _ k2;rw[gA.2.2.1]at h4;have:hd A=A.headD 0:=rfl;omega
end
end Go.Pev.Pl
end
section
namespace Go.Pev.Pl
def PW(n:Nat):Int:=((@PX idI ((n:Int),())).getD (0,())).1
theorem AXN:((List.range 65).all fun k=>decide (@PX idI ((k:Int),())=some (PW k,())))=true:=by kernel_rfl
theorem AWi:((List.range 65).all fun k=>decide (@j5 idI ((k:Int),())=some (PW k,())))=true:=by kernel_rfl
theorem AHD(n:Nat)(h:n≤64):PX ((n:Int),())=some (PW n,()):=by rw[show PX ((n:Int),()) = @PX idI ((n:Int),())from AYh (fun i=>@PX i ((n:Int),())) X0];exact AZq (AXy.1 AXN n (by simp;omega))
theorem rO(n:Nat)(h:n≤64):j5 ((n:Int),())=some (PW n,()):=by rw[show j5 ((n:Int),()) = @j5 idI ((n:Int),())from AYh (fun i=>@j5 i ((n:Int),())) X0];exact AZq (AXy.1 AWi n (by simp;omega))
def AUE(a b:Int):Int:=if a<b then -1 else if b<a then 1 else 0
theorem lD(a b:Int):Eu (a,b,())=some (AUE a b,()):=by rw[Mt,LP];simp only[jw,jx,NZ,AXh];unfold AUE;rw[BM,BM];by_cases h:a<b;rw[AXb h,AXp h];rw[AXZ h,AXo h];by_cases h':b<a;rw[AXb h',AXp h'];rw[AXZ h',AXo h']
theorem AS3(a b:Int):orI ([a,b],())=some (if a=0 then b else a,()):=by
 rw[AOU,AOV]
 have e:=N3 (step:=Xp) (fun i=>(0,[a,b],A4 [a,b],(i:Int),())) [a,b] (fun x => !decide (x=0)) (fun i=>.inl ([a,b].getD i 0,())) (.inr (.inl (0,()))) (by simp)
  (fun i x hi hx=>by
   rw[Xp,A8,A_,AXb hi]
   simp only[BK hx,Be]
   have hi2:i<2:=hi
   rw[A' (by omega)]
   have hg:[a,b].getD i 0=x:=by rw[AXe,hx];rfl
   rw[hg]
   by_cases h:x=0
   ·simp[h]
   ·simp[h])
  (by rw[Xp,A8,A_,AXZ (by omega)])
 have e':A9 Xp many (0,[a,b],A4 [a,b],(0:Int),())=_:=e;rw[e'];by_cases h:a=0;by_cases h':b=0;simp[h,h'];simp[h,h',List.findIdx_cons];simp[h,List.findIdx_cons]
theorem j9(p x:Tie):∃ y,IW (p,x,())=some (y,())∧ile 0 y = !decide (ahead p x):=by
 rw[Tf,Og];simp only[lD,AS3];refine⟨_,rfl,?_⟩;rw[BZ];by_cases h:ahead p x;rw[AXb h];unfold ahead at h;unfold AUE;rw[AXZ];· rfl
 split<;>split<;>(try split)<;>omega;rw[AXZ h];unfold ahead at h;unfold AUE;rw[AXb];· rfl
 split<;>split<;>(try split)<;>omega
def No(N:Nat)(ts:List Tie)(i:Nat):Prop:=
 0≤(ts.getD i zT).1∧(ts.getD i zT).1<(ts.getD i zT).2.1∧(ts.getD i zT).2.1<(N:Int)∧0≤(ts.getD i zT).2.2.1∧(ts.getD i zT).2.2.1≤PW N∧(i=0∨ahead (ts.getD (i-1) zT) (ts.getD i zT))
instance (N:Nat)(ts:List Tie)(i:Nat):Decidable (No N ts i):=inferInstanceAs (Decidable (_∧_∧_∧_∧_∧_))
def trs(ts:List Tie)(k:Nat):List Edge:=(List.range k).foldl (fun a i=>if(ts.getD i zT).2.2.2.1=true then a++[ed (ts.getD i zT)]else a) []
theorem nx{α β ρ:Type}(P:β→Prop)[DecidablePred P](g:β→α→α)(fin:α→ρ)(rt:ρ):∀ (xs:List β) (a:α),walk (fun x a=>if P x then .inl (g x a)else .inr rt) fin xs a=if ∀ x∈xs,P x then fin (xs.foldl (fun a x=>g x a) a)else rt:=by
 intro xs;induction xs with
  |nil=>intro a;simp[walk]
  |cons x xs ih=>intro a;rw[walk];by_cases h:P x;rw[AXp h];simp only[];rw[ih];simp[h];rw[AXo h];simp[h]
theorem oB(ts:List Tie)(k:Nat):trs ts (k+1)=if(ts.getD k zT).2.2.2.1=true then trs ts k++[ed (ts.getD k zT)]else trs ts k:=by unfold trs;rw[AYZ,List.foldl_append];rfl
theorem iU(ts:List Tie):∀ k,(trs ts k).length≤k:=by
 intro k;induction k with
  |zero=>exact AXl _
  |succ k ih=>rw[oB];split;rw[AXn];simp;omega;omega
theorem AR0(ts:List Tie)(e:Edge):∀ k,e∈trs ts k→∃ i,i<k∧e=ed (ts.getD i zT):=by
 intro k;induction k with
  |zero=>intro h;simp[trs]at h
  |succ k ih=>intro h;rw[oB]at h;split at h;rcases AXq.1 h with h|h;obtain⟨i,h1,h2⟩:=ih h;exact⟨i,by omega,h2⟩;simp only[AYB]at h;exact⟨k,by omega,h⟩;obtain⟨i,h1,h2⟩:=ih h;exact⟨i,by omega,h2⟩
def oks(N:Nat)(ts:List Tie):Prop:=∀ i∈List.range ts.length,No N ts i
instance (N:Nat)(ts:List Tie):Decidable (oks N ts):=inferInstanceAs (Decidable (∀ i∈List.range ts.length,No N ts i))
theorem rR(N:Nat)(hN:N≤64)(ts:List Tie)(hs:ts.length≤400):
  A9 GK many ((N:Int),ts,PW N,ts,A4 ts,(0:Int),())=some (if oks N ts then .inr (.inl ((N:Int),ts,()))else .inl (false,())):=by
 have e:=Ct (step:=GK) (fun i (_:Unit)=>((N:Int),ts,PW N,ts,A4 ts,(i:Int),())) (List.range ts.length) (fun i a=>if No N ts i then .inl a else .inr (.inl (false,()))) (fun _=>.inr (.inl ((N:Int),ts,()))) (fun _ _=>True) (by simp;omega)
  (fun i x a hi hx _=>by
   have:=Kp hx
   subst this
   rw[AX1]at hi
   have step:GK ((N:Int),ts,PW N,ts,A4 ts,(x:Int),())=if No N ts x then some (.inl ((N:Int),ts,PW N,ts,A4 ts,((x+1:Nat):Int),()))else some (.inr (.inl (false,()))):=by
    rw[GK,A8,A_,AXb hi]
    simp only[Es zT hi]
    obtain⟨t,ht⟩:∃ t,ts.getD x zT=t:=⟨_,rfl⟩
    have hk:No N ts x↔(0≤t.1∧t.1<t.2.1∧t.2.1<(N:Int)∧0≤t.2.2.1∧t.2.2.1≤PW N∧(x=0∨ahead (ts.getD (x-1) zT) t)):=by unfold No;rw[ht]
    rw[ht]
    rw[BM,BZ,BZ,BM,BM]
    by_cases h1:t.1<0
    ·rw[AXb h1,AXo (fun h=>by obtain⟨q1,q2,q3,q4,q5,_⟩:=hk.1 h;omega)]
    rw[AXZ h1]
    by_cases h2:t.2.1≤t.1
    ·rw[AXb h2,AXo (fun h=>by obtain⟨q1,q2,q3,q4,q5,_⟩:=hk.1 h;omega)]
    rw[AXZ h2]
    by_cases h3:(N:Int)≤t.2.1
    ·rw[AXb h3,AXo (fun h=>by obtain⟨q1,q2,q3,q4,q5,_⟩:=hk.1 h;omega)]
    rw[AXZ h3]
    by_cases h4:t.2.2.1<0
    ·rw[AXb h4,AXo (fun h=>by obtain⟨q1,q2,q3,q4,q5,_⟩:=hk.1 h;omega)]
    rw[AXZ h4]
    by_cases h5:PW N<t.2.2.1
    ·rw[AXb h5,AXo (fun h=>by obtain⟨q1,q2,q3,q4,q5,_⟩:=hk.1 h;omega)]
    rw[AXZ h5]
    simp only[]
    rw[A' (by omega),BM]
    by_cases h6:x=0
    ·subst h6
     rw[AXZ (by omega),AXp (hk.2 ⟨by omega,by omega,by omega,by omega,by omega,.inl rfl⟩)]
    ·rw[AXb (by omega),BR (by omega),show((x:Int)-1)=((x-1:Nat):Int) by omega]
     simp only[Es zT (show x-1<ts.length by omega)]
     obtain⟨y,ey,hy⟩:=j9 (ts.getD (x-1) zT) t
     have ey':IW (((ts.getD (x-1) zT).1,((ts.getD (x-1) zT).2.1,((ts.getD (x-1) zT).2.2.1,((ts.getD (x-1) zT).2.2.2.1,())))),(t.1,(t.2.1,(t.2.2.1,(t.2.2.2.1,())))),())=some (y,()):=ey
     simp only[ey',hy]
     by_cases h7:ahead (ts.getD (x-1) zT) t
     ·rw[AXb h7,AXp (hk.2 ⟨by omega,by omega,by omega,by omega,by omega,.inr h7⟩)]
      rfl
     ·rw[AXZ h7,AXo (fun h=>by rcases(hk.1 h).2.2.2.2.2 with h|h;exact h6 h;exact h7 h)]
      rfl
   by_cases h:No N ts x
   ·rw[AXp h]at step ⊢
    refine⟨fun m' h' => ?_,fun r h'=>(by cases h')⟩
    cases h'
    exact⟨step,trivial⟩
   ·rw[AXo h]at step ⊢
    refine⟨fun m' h'=>(by cases h'),fun r h' => ?_⟩
    cases h'
    exact step)
  (fun a _=>by rw[GK,AX1,A8,A_,AXZ (by omega)]) () trivial
 have e':A9 GK many ((N:Int),ts,PW N,ts,A4 ts,(0:Int),())=_:=e;rw[e',nx (No N ts) (fun _ a=>a)];rfl
theorem Pm(N:Nat)(hN:N≤64)(ts:List Tie)(hs:ts.length≤400):
  A9 E3 many ((N:Int),ts,[],(0:Int),())=some (if oks N ts then .inr (.inl ((N:Int),ts,trs ts ts.length,()))else .inl (false,())):=by
 have e:=Ct (step:=E3) (fun i (a:List Edge)=>((N:Int),ts,a,(i:Int),())) (List.range ts.length) (fun i a=>if No N ts i then .inl (if(ts.getD i zT).2.2.2.1=true then a++[ed (ts.getD i zT)]else a)else .inr (.inl (false,()))) (fun a=>.inr (.inl ((N:Int),ts,a,()))) (fun i a=>a.length≤i) (by simp;omega)
  (fun i x a hi hx ha=>by
   have:=Kp hx
   subst this
   rw[AX1]at hi
   have step:E3 ((N:Int),ts,a,(x:Int),())=if No N ts x then some (.inl ((N:Int),ts,if(ts.getD x zT).2.2.2.1=true then a++[ed (ts.getD x zT)]else a,((x+1:Nat):Int),()))else some (.inr (.inl (false,()))):=by
    rw[E3,A8,A_,AXb hi]
    simp only[Es zT hi,AHD N hN]
    obtain⟨t,ht⟩:∃ t,ts.getD x zT=t:=⟨_,rfl⟩
    have hk:No N ts x↔(0≤t.1∧t.1<t.2.1∧t.2.1<(N:Int)∧0≤t.2.2.1∧t.2.2.1≤PW N∧(x=0∨ahead (ts.getD (x-1) zT) t)):=by unfold No;rw[ht]
    rw[ht]
    rw[BM,BZ,BZ,BM,BM]
    by_cases h1:t.1<0
    ·rw[AXb h1,AXo (fun h=>by obtain⟨q1,q2,q3,q4,q5,_⟩:=hk.1 h;omega)]
    rw[AXZ h1]
    by_cases h2:t.2.1≤t.1
    ·rw[AXb h2,AXo (fun h=>by obtain⟨q1,q2,q3,q4,q5,_⟩:=hk.1 h;omega)]
    rw[AXZ h2]
    by_cases h3:(N:Int)≤t.2.1
    ·rw[AXb h3,AXo (fun h=>by obtain⟨q1,q2,q3,q4,q5,_⟩:=hk.1 h;omega)]
    rw[AXZ h3]
    by_cases h4:t.2.2.1<0
    ·rw[AXb h4,AXo (fun h=>by obtain⟨q1,q2,q3,q4,q5,_⟩:=hk.1 h;omega)]
    rw[AXZ h4]
    by_cases h5:PW N<t.2.2.1
    ·rw[AXb h5,AXo (fun h=>by obtain⟨q1,q2,q3,q4,q5,_⟩:=hk.1 h;omega)]
    rw[AXZ h5]
    simp only[A8]
    have hfit:fits ((a.length:Int)+(([(t.1,t.2.1,())]:List Edge).length:Int))=true:=Bt (by simp;omega)
    rw[A' (by omega),BM]
    by_cases h6:x=0
    ·subst h6
     rw[AXZ (by omega),AXp (hk.2 ⟨by omega,by omega,by omega,by omega,by omega,.inl rfl⟩)]
     cases ht4:t.2.2.2.1
     ·simp
     ·simp only[hfit]
      simp[ed,BT]
    ·rw[AXb (by omega),BR (by omega),show((x:Int)-1)=((x-1:Nat):Int) by omega]
     simp only[Es zT (show x-1<ts.length by omega),Be]
     generalize ts.getD (x-1) zT=p at hk ⊢
     rw[BM,BZ]
     by_cases h7:t.1<p.1
     ·rw[AXb h7,AXo (fun h=>by rcases(hk.1 h).2.2.2.2.2 with h|h|h<;>omega)]
     rw[AXZ h7]
     by_cases h8:p.1=t.1
     ·rw[AXb h8]
      by_cases h9:t.2.1≤p.2.1
      ·rw[AXb h9,AXo (fun h=>by rcases(hk.1 h).2.2.2.2.2 with h|h|h<;>omega)]
      rw[AXZ h9,AXp (hk.2 ⟨by omega,by omega,by omega,by omega,by omega,.inr (.inr ⟨h8,by omega⟩)⟩)]
      cases ht4:t.2.2.2.1
      ·simp
      ·simp only[hfit]
       simp[ed,BT]
     ·rw[AXZ h8,AXp (hk.2 ⟨by omega,by omega,by omega,by omega,by omega,.inr (.inl (by omega))⟩)]
      cases ht4:t.2.2.2.1
      ·simp
      ·simp only[hfit]
       simp[ed,BT]
   by_cases h:No N ts x
   ·rw[AXp h]at step ⊢
    refine⟨fun m' h' => ?_,fun r h'=>(by cases h')⟩
    cases h'
    refine⟨step,?_⟩
    split
    ·rw[AXn];simp;omega
    ·omega
   ·rw[AXo h]at step ⊢
    refine⟨fun m' h'=>(by cases h'),fun r h' => ?_⟩
    cases h'
    exact step)
  (fun a _=>by rw[E3,AX1,A8,A_,AXZ (by omega)]) [] (AXl _)
 have e':A9 E3 many ((N:Int),ts,[],(0:Int),())=_:=e;rw[e',nx (No N ts) (fun i a=>if(ts.getD i zT).2.2.2.1=true then a++[ed (ts.getD i zT)]else a)];rfl
end Go.Pev.Pl
end
end
section
section
namespace Go.Pev.Pl
theorem AEI{N:Nat}{ts:List Tie}(hN:N≤64){i:Nat}(h:No N ts i):In (N:Int) (ed (ts.getD i zT)).1∧In (N:Int) (ed (ts.getD i zT)).2.1:=by obtain⟨q1,q2,q3,_⟩:=h;exact⟨⟨by omega,by omega,q1,by show(ts.getD i zT).1<_;omega⟩,⟨by omega,by omega,by show 0≤(ts.getD i zT).2.1;omega,q3⟩⟩
theorem xH{N:Nat}{ts:List Tie}(hN:N≤64)(h:oks N ts):∀ e∈trs ts ts.length,In (N:Int) e.1∧In (N:Int) e.2.1:=by intro e he;obtain⟨i,hi,rfl⟩:=AR0 ts e _ he;exact AEI hN (h i (by simp[hi]))
theorem AWK{N:Nat}{ts:List Tie}(hN:N≤64)(h:oks N ts):∀ e∈ts.map ed,In (N:Int) e.1∧In (N:Int) e.2.1:=by intro e he;obtain⟨t,ht,rfl⟩:=AYE.1 he;obtain⟨i,hi,rfl⟩:=AYs ht;have:=AEI hN (h i (by simp[hi]));simpa [hi]using this
theorem AAD{N:Nat}(ts:List Tie)(hs:ts.length≤400)(h:oks N ts):R9 (((N:Int),(ts,())),(0:Int),())=some (trs ts ts.length,()):=by
 rw[R8,P8]
 have e:=Ct (step:=Ec) (fun i (a:List Edge)=>((0:Int),a,ts,A4 ts,(i:Int),())) (List.range ts.length) (fun i a=>.inl (if(ts.getD i zT).2.2.2.1=true then a++[ed (ts.getD i zT)]else a)) (fun a=>.inl (a,())) (fun i a=>a.length≤i) (by simp;omega)
  (fun i x a hi hx ha=>by
   refine⟨fun m' h' => ?_,fun r h'=>(by cases h')⟩
   cases h'
   have:=Kp hx
   subst this
   rw[AX1]at hi
   have hlv:=(h x (by simp[hi])).2.2.2.1
   constructor
   ·rw[Ec,A8,A_,AXb hi]
    simp only[Es zT hi,A8]
    have hfit:fits ((a.length:Int)+(([((ts.getD x zT).1,(ts.getD x zT).2.1,())]:List Edge).length:Int))=true:=Bt (by simp;omega)
    rw[A' (by omega),BZ,AXb hlv]
    cases ht4:(ts.getD x zT).2.2.2.1
    ·simp
    ·simp only[hfit]
     simp[ed,BT]
   ·split
    ·rw[AXn];simp;omega
    ·omega)
  (fun a _=>by rw[Ec,AX1,A8,A_,AXZ (by omega)]) [] (AXl _)
 have e':A9 Ec many ((0:Int),[],ts,A4 ts,(0:Int),())=_:=e;simp only[e'];rw[B0 (fun i a=>if(ts.getD i zT).2.2.2.1=true then a++[ed (ts.getD i zT)]else a)];rfl
def cnt(out:List Int)(N:Nat):Nat:=((List.range N).filter fun k=>decide (out.getD k 0=(k:Int))).length
theorem TM{N:Nat}{rings:List (List Int)}{l:List Edge}{out:List Int}(h:FC (N:Int) rings l)(hc:nZ (N:Int) l out):rings.length=cnt out N:=by
 have hsz:=h.fr.sz;have hp:(rings.map hd).Perm (((List.range N).filter fun k=>decide (out.getD k 0=(k:Int))).map fun(k:Nat)=>(k:Int)):=by
  rw[List.perm_ext_iff_of_nodup];intro a;simp only[AYE,AY6,AYS,AXc];constructor;rintro⟨A,hA,rfl⟩;have gA:=h.fr.rg A hA;have ih:In (N:Int) (hd A):=Nj gA;have hh:=SY gA.2.1;have:=sE h hc hA ih hh;obtain⟨_,_,a1,a2⟩:=ih;refine⟨(hd A).toNat,⟨by omega,?_⟩,by omega⟩;rw[show out.getD (hd A).toNat 0=cl out (hd A)from rfl,← this];omega;rintro⟨k,⟨hk,ho⟩,rfl⟩;have ik:In (N:Int) (k:Int):=⟨hsz.1,hsz.2,by omega,by omega⟩
  obtain⟨A,hA,hm⟩:=h.fr.cov _ ik;refine⟨A,hA,?_⟩;rw[sE h hc hA ik hm];unfold cl;rw[AYG];exact ho;exact(AZG.2 h.fr.up).imp (fun h=>by omega);refine List.Pairwise.map _ (S:=fun a b=>a≠b) (R:=fun a b=>a≠b) (fun a b h h'=>h (by omega)) ?_;exact(List.nodup_range).filter _
 have:=hp.length_eq;rw[AYU,AYU]at this;exact this
theorem Nv(N:Nat)(hN:N≤64)(p:List Tie)(q:List Edge)(out:List Int)(ho:out.length=N):A9 F7 many ((N:Int),p,q,out,(0:Int),(0:Int),())=some (.inl ((N:Int),p,q,(cnt out N:Int),())):=by
 have e:=Ct (step:=F7) (fun i (a:Nat)=>((N:Int),p,q,out,(a:Int),(i:Int),())) (List.range N) (fun k a=>.inl (if out.getD k 0=(k:Int)then a+1 else a)) (fun a=>.inl ((N:Int),p,q,(a:Int),())) (fun i a=>a≤i) (by simp;omega)
  (fun i x a hi hx ha=>by
   refine⟨fun m' h' => ?_,fun r h'=>(by cases h')⟩
   cases h'
   have:=Kp hx
   subst this
   rw[AX1]at hi
   constructor
   ·rw[F7,A_,AXb hi]
    simp only[Es 0 (show x<out.length by omega),LM,Be]
    rw[A' (by omega),A' (by omega)]
    by_cases h:out.getD x 0=(x:Int)
    ·rw[AXb h,AXp h]
    ·rw[AXZ h,AXo h]
   ·split<;>omega)
  (fun a _=>by rw[F7,AX1,A_,AXZ (by omega)]) 0 (AXl _)
 have e':A9 F7 many ((N:Int),p,q,out,(0:Int),(0:Int),())=_:=e;rw[e',B0 (fun k a=>if out.getD k 0=(k:Int)then a+1 else a)];have key:∀ (xs:List Nat) (a:Nat),xs.foldl (fun a k=>if out.getD k 0=(k:Int)then a+1 else a) a=a+(xs.filter fun k=>decide (out.getD k 0=(k:Int))).length:=by
  intro xs;induction xs with
   |nil=>intro a;rfl
   |cons x xs ih=>
    intro a;rw[AYI,ih,List.filter_cons];by_cases h:out.getD x 0=(x:Int)
    simp only[h,AX9,AXi,AXg];omega;simp only[h,AXv,AXu,AXw]
 rw[key,AYQ];rfl
theorem ZK(n:Int)(ts:List Tie)(hl:ts.length<4611686018427387904):∃ b:Bool,HW ((n,(ts,())),())=some (b,())∧E7 ((n,(ts,())),())=some (b,())∧(b=true→∃ N:Nat,n=(N:Int)∧1≤N∧N≤64∧ts.length≤400∧oks N ts):=by
 by_cases hn:¬ (1≤n∧n≤64);refine⟨false,?_,?_,fun h=>by cases h⟩;rw[F8,F9,BM,BM];by_cases h:n<1;simp only[AXb h];simp only[AXZ h,AXb (show 64<n by omega)];rw[J7,J8];simp only[R_,P9,BZ];by_cases h:1≤n;simp only[AXb h,AXZ (show ¬ n≤64 by omega),AYL];simp only[AXZ h,AYL];have hn:=AaI.1 hn;obtain⟨N,rfl⟩:=AXr (show 0≤n by omega);have hsz:Xy ((N:Int),())=some (true,()):=by simp only[R_,P9,BZ,AXb hn.1,AXb hn.2]
 by_cases h4:¬ ts.length≤400;refine⟨false,?_,?_,fun h=>by cases h⟩;rw[F8,F9];simp only[BM,A8];rw[AXZ (show ¬ (N:Int)<1 by omega),AXZ (show ¬ 64<(N:Int) by omega),AXb (show 400<(ts.length:Int) by omega)];rw[J7,J8];simp only[hsz,AXh,BM,A8];rw[AXb (show 400<(ts.length:Int) by omega)];have h4:=AaI.1 h4;have R:=Pm N (by omega) ts h4;have L:=rR N (by omega) ts h4;by_cases ho:¬ oks N ts;rw[AXo ho]at R L;refine⟨false,?_,?_,fun h=>by cases h⟩;rw[F8,F9];simp only[BM,A8];rw[AXZ (show ¬ (N:Int)<1 by omega),AXZ (show ¬ 64<(N:Int) by omega),AXZ (show ¬ 400<(ts.length:Int) by omega)];simp only[R];rw[J7,J8];simp only[hsz,AXh,BM,A8,rO N (by omega)];rw[AXZ (show ¬ 400<(ts.length:Int) by omega)];rw[A8]at L;simp only[L];have ho:=AaI.1 ho;rw[AXp ho]at R L;have hin:=xH (show N≤64 by omega) ho;have hlen:=iU ts ts.length;obtain⟨out,hc,hcl⟩:=Gl (N:Int) (trs ts ts.length) hn (by omega) hin;rcases(AT3 (N:Int) (trs ts ts.length) hn (by omega)).symm with⟨hno,_⟩|⟨_,rings,hf,hfc⟩
 exact absurd hin hno;have hcount:=TM hfc hcl;have hol:out.length=N:=by have:=hcl.len;omega
 refine⟨decide ((cnt out N:Int)=(N:Int)-(trs ts ts.length).length),?_,?_,fun _=>⟨N,rfl,by omega,by omega,h4,ho⟩⟩;rw[F8,F9];simp only[BM,A8];rw[AXZ (show ¬ (N:Int)<1 by omega),AXZ (show ¬ 64<(N:Int) by omega),AXZ (show ¬ 400<(ts.length:Int) by omega)];simp only[R,hc,Nv N (by omega) _ _ out hol,Be];rw[BR (by omega)];rw[J7,J8];simp only[hsz,AXh,BM,A8,rO N (by omega)];rw[AXZ (show ¬ 400<(ts.length:Int) by omega)];rw[A8]at L;simp only[L,AAD ts h4 ho,hf,NZ,Be,hcount];rw[BR (by omega)]
end Go.Pev.Pl
end
section
namespace Go.Pev.Pl
theorem nZ.unique{N:Nat}{l:List Edge}{a b:List Int}(h1:1≤N)(h2:N≤64)(ha:nZ (N:Int) l a)(hb:nZ (N:Int) l b):a=b:=by
 have la:=ha.len;have lb:=hb.len;refine Hc (0:Int) (by omega) fun k hk => ?_;have ik:In (N:Int) (k:Int):=⟨by omega,by omega,by omega,by omega⟩
 have e1:=ha.least _ _ ik (hb.isin _ ik) (hb.con _ ik);have e2:=hb.least _ _ ik (ha.isin _ ik) (ha.con _ ik);unfold cl at e1 e2;rw[AYG]at e1 e2;omega
def InV(N:Nat)(x:Int):Prop:=0≤x∧x<(N:Int)
instance (N:Nat)(x:Int):Decidable (InV N x):=inferInstanceAs (Decidable (_∧_))
end Go.Pev.Pl
end
section
namespace Go.Pev.Pl
end Go.Pev.Pl
end
section
namespace Go.Pev.Pl
def AW2(l:List Edge)(u v:Int):Prop:=((u,(v,())):Edge)∈l∨((v,(u,())):Edge)∈l
instance (l:List Edge)(u v:Int):Decidable (AW2 l u v):=inferInstanceAs (Decidable (_∨_))
def AXR(N:Nat)(l:List Edge)(u:Nat):List Edge:=((List.range (N-(u+1))).filter fun i=>decide (AW2 l (u:Int) ((u+1+i:Nat):Int))).map fun(i:Nat)=>((u:Int),((u+1+i:Nat):Int),())
def AVi(N:Nat)(l:List Edge):List Edge:=(List.range N).flatMap fun u=>AXR N l u
end Go.Pev.Pl
end
section
namespace Go.Pev.Pl
def AQS(N:Nat)(ts:List Tie)(l:List Edge):List Edge:=(AVi N l).filter fun x => !decide (x∈ts.map ed)
def AXT(l:List Tie)(t:Tie):List Tie:=l.take (l.findIdx fun x => !decide (ahead x t))++t::l.drop (l.findIdx fun x => !decide (ahead x t))
end Go.Pev.Pl
end
section
namespace Go.Pev.Pl
end Go.Pev.Pl
end
section
namespace Go.Pev.Pl
end Go.Pev.Pl
end
section
namespace Go.Pev.Pl
open Tok
instance (n v:Int):Decidable (In n v):=inferInstanceAs (Decidable (_∧_))
instance (n:Int):Decidable (Sz n):=inferInstanceAs (Decidable (_∧_))
theorem KC(n v:Int):kJ (n,v,())=some (decide (In n v),()):=by rw[AEg,AAS];simp only[BZ,BM];by_cases h1:1≤n<;>by_cases h2:n≤64<;>by_cases h3:0≤v<;>simp[In,h1,h2,h3]
theorem fb(n u v:Int):fc (n,u,v,())=some (En n u v,()):=by
 rw[uE,lh];simp only[KC,En,Be];by_cases h1:In n u;by_cases h2:In n v;by_cases h3:u=v;simp[h1,h2,h3];obtain⟨a1,a2,a3,a4⟩:=h1;obtain⟨b1,b2,b3,b4⟩:=h2;have hb:=GJ a1 a2 a3 (by omega);have e1:u*n=n*u:=Int.mul_comm _ _;have e2:n*(u+1)=n*u+n:=by rw[AaK,AaL]
 rw[e1,BR (n:=n*u) (by omega),BR (n:=n+n*u) (by omega),BR (n:=n+n*u+v) (by omega),e2];have e3:n+n*u+v=n*u+n+v:=by omega
 simp[In,a1,a2,a3,a4,b3,b4,h3,e3];simp[h1,h2];simp[h1]
theorem S'(n t:Int)(ht:-9223372036854775808≤t∧t≤9223372036854775807):PY (n,t,())=some (Nn (Cu n t)):=by
 rw[Ws,Rg];simp only[KC,BM,BZ];by_cases hi:In n t;simp only[hi,AXi,Cu,AX9,Nn];simp only[hi,AXu];by_cases h1:n<1;have hs:¬ Sz n:=fun h=>by have:=h.1;omega
 simp only[h1,AXi,Cu,hi,AXv,hs,AZH,Nn];simp only[h1,AXu];by_cases h2:64<n;have hs:¬ Sz n:=fun h=>by have:=h.2;omega
 simp only[h2,AXi,Cu,hi,AXv,hs,AZH,Nn];have a1:1≤n:=by omega
 have a2:n≤64:=by omega
 have hb:=GJ (u:=n) a1 a2 (by omega) (by omega);have e3:n*(n+1)=n*n+n:=by rw[AaK,AaL]
 rw[BR (n:=n*n) (by omega),BR (n:=n+n*n) (by omega)];simp only[h2,AXu];by_cases h3:t<n;have:¬ n≤t:=by omega
 simp only[h3,AXi,Cu,hi,AXv,this,AZH,and_false,Nn];simp only[h3,AXu];by_cases h4:n+n*n≤t;have:¬ t<n*(n+1):=by omega
 simp only[h4,AXi,Cu,hi,AXv,this,AZH,and_false,Nn];obtain⟨d1,d2,d3⟩:=k6 (t:=t) ⟨a1,a2⟩ (by omega) (by omega);have q1:=d1.2.2.1;have q2:=d1.2.2.2;rw[BR (n:=t-n) (by omega)];have hq:(t-n).tdiv n=t/n-1:=by rw[AYq (by omega)];have:=Int.add_mul_ediv_right t (-1) (show n≠0 by omega);rw[show t-n=t + -1*n by omega,this];omega
 have hm:(t-n).tmod n=t % n:=by rw[AZz (by omega)];have:=Int.add_mul_emod_self_right t (-1) n;rw[show t-n=t + -1*n by omega,this]
 simp only[h4,AXu,OQ,jZ,XR,yU];rw[AXo (by omega),AXo (by omega),hq,hm,b9 (n:=t/n-1) (by omega)];simp only[];rw[Be,Cu,AXo hi];by_cases h5:t/n-1=t % n;rw[AXo (by intro h;exact h.2.2.2 h5),AXb h5];rfl;rw[AXp ⟨⟨a1,a2⟩,by omega,by omega,h5⟩,AXZ h5];rfl
theorem Te(xs ys:List (List Int))(hs:xs.length<9223372036854775808)(hi:∀ x∈xs,x.length<9223372036854775808):QC (xs,ys,())=some (decide (xs=ys),()):=by
 rw[X1,SB,YW];by_cases hl:xs.length=ys.length;rw[AXb hl];simp only[AXh];rcases ow (step:=GM) (fun i=>(xs,ys,((i:Nat):Int),())) xs.length (fun i => !decide (xs.getD i []=ys.getD i [])) (fun _=>.inl (false,())) (.inr (.inl ())) hs (fun i hii=>by have hm:(xs.getD i []).length<9223372036854775808:=hi _ (by simp[hii]);rw[GM,A8,A_,AXb hii];simp (disch:=first|omega|exact hm) only[Es ([]:List Int),A',Oq];by_cases h:xs.getD i []=ys.getD i [];rw[AXb h];simp;rw[AXZ h];simp) (by rw[GM,A8,A_,AXZ (by omega)])with⟨k,hk,hP,_,e⟩|⟨h,e⟩
 have e':A9 GM many (xs,ys,(0:Int),())=_:=e;rw[e'];have:xs≠ys:=Tc ([]:List Int) (j:=k) (by simpa using hP);simp[this];have e':A9 GM many (xs,ys,(0:Int),())=_:=e;rw[e'];have:xs=ys:=Hc ([]:List Int) hl fun j hj=>by simpa using h j hj
 simp[this];rw[AXZ hl];have:xs≠ys:=fun e=>hl (by rw[e]);simp[this]
theorem rL(N:Nat)(hN:N≤64)(c:Int):∀ (k i n:Nat),i+k=N→k<n→BE J6 n ((N:Int),c,(N:Int),CF i,(i:Int),())=some (.inl (c,(N:Int),CF N,())):=by
 intro k;induction k with
  |zero=>
   intro i n hi hn;obtain⟨n,rfl⟩:∃ k,n=k+1:=⟨n-1,by omega⟩
   have:i=N:=by omega
   subst this;rw[BE,J6,A_,AXZ (by omega)]
  |succ k ih=>
   intro i n hi hn;obtain⟨n,rfl⟩:∃ k,n=k+1:=⟨n-1,by omega⟩
   rw[BE,J6,A_,AXb (by omega)];simp only[A8,TE,AXg,AXs];rw[Bt (by omega),A' (by omega)];simp only[Dt,← Pd];exact ih (i+1) n (by omega) (by omega)
theorem AAB(n:Int):Xw (n,())=some (HZ n):=by
 have hm:4294967296<many:=by simp only[many];omega
 rw[eL,Xv,HZ];simp only[BM];by_cases h1:n<1;have:¬ Sz n:=fun h=>by have:=h.1;omega
 simp[h1,this];by_cases h2:64<n;have:¬ Sz n:=fun h=>by have:=h.2;omega
 simp[h1,h2,this];obtain⟨N,rfl⟩:=AXr (show 0≤n by omega);have hS:Sz (N:Int):=⟨by omega,by omega⟩
 have e:=rL N (by omega) 0 N 0 many (by omega) (by omega);have e':BE J6 many ((N:Int),0,(N:Int),[],(0:Int),())=_:=e;simp[h1,h2,hS,Bf,e']
end Go.Pev.Pl
end
section
namespace Go.Pev.Pl
theorem L7(xs:List Int)(t:Int)(hs:xs.length<9223372036854775808):Kr (xs,t,())=some (pos xs t,()):=by
 rw[XX,R0]
 have e:=N3 (step:=IN) (fun i=>(xs,t,(i:Int),())) xs (fun x=>decide (x=t)) (fun i=>.inl ((i:Int),())) (.inr (.inl ())) hs
  (fun i x hi hx=>by
   rw[IN,A8,A_,AXb hi]
   simp only[BK hx,Be]
   by_cases h:x=t
   ·simp[h]
   ·simp only[h,AXu];rw[A' (by omega)];simp)
  (by rw[IN,A8,A_,AXZ (by omega)])
 have e':A9 IN many (xs,t,(0:Int),())=_:=e;rw[e',AFa,pos];by_cases h:t∈xs<;>simp[h]
instance (xs:List Int):Decidable (Rt xs):=inferInstanceAs (Decidable (_∧_∧_))
theorem I_(xs:List Int):I' (xs,())=some (decide (Rt xs),()):=by
 rw[XP,Rv,A8,BM];by_cases hl:xs.length≤1000;rw[AXZ (by omega)];simp only[];rcases ow (step:=F_) (fun i=>(xs,((i:Nat):Int),())) xs.length (fun i=>decide (xs.getD i 0<0)||decide (10000<xs.getD i 0)||decide (xs.getD i 0∈xs.take i)) (fun _=>.inl (false,())) (.inr (.inl ())) (by omega) (fun i hi=>by rw[F_,A8,A_,AXb hi];have hpl:Kr (xs.take i,xs.getD i 0,())=some (pos (xs.take i) (xs.getD i 0),()):=L7 _ _ (by simp;omega);simp (disch:=omega) only[Es (0:Int),OL,hpl,A',BM,BZ];by_cases h1:xs.getD i 0<0;simp only[h1,AXi];simp;by_cases h2:10000<xs.getD i 0;simp only[h1,h2,AXi,AXu];simp;by_cases h3:xs.getD i 0∈xs.take i;obtain⟨k,e,_⟩:=jc h3;rw[e];simp only[h1,h2,h3,AXi,AXu];simp;rw[Pr h3];simp only[h1,h2,h3,AXu];simp) (by rw[F_,A8,A_,AXZ (by omega)])with⟨k,hk,hP,_,e⟩|⟨h,e⟩
 have e':A9 F_ many (xs,(0:Int),())=_:=e;rw[e'];have:¬ Rt xs:=by
  rintro⟨_,h1,h2⟩;have hm:xs.getD k 0∈xs:=by rw[AXe,AXj hk,AX5];exact AYp hk
  have:=h1 _ hm;have h3:=(Pz xs).1 h2 k hk;have c1:¬ xs.getD k 0<0:=by omega
  have c2:¬ 10000<xs.getD k 0:=by omega
  rw[AXZ c1,AXZ c2,AXZ h3]at hP;cases hP
 simp[this];have e':A9 F_ many (xs,(0:Int),())=_:=e;rw[e'];have:Rt xs:=by
  have key:∀ j,j<xs.length→¬ xs.getD j 0<0∧¬ 10000<xs.getD j 0∧xs.getD j 0∉xs.take j:=fun j hj=>by have:=h j hj;rw[Bool.or_eq_false_iff,Bool.or_eq_false_iff,AYM,AYM,AYM]at this;exact⟨this.1.1,this.1.2,this.2⟩
  refine⟨hl,fun x hx => ?_,(Pz xs).2 fun j hj=>(key j hj).2.2⟩;obtain⟨j,hj,rfl⟩:=AYs hx;obtain⟨k1,k2,_⟩:=key j hj;rw[AXe,AXj hj,AX5]at k1 k2;omega
 simp[this];rw[AXb (by omega)];have:¬ Rt xs:=fun h=>hl h.1;simp[this]
theorem O7(xs:List Int)(t:Int)(hs:xs.length<9223372036854775808):Sb (xs,t,())=some (JR xs t):=by rw[ep,Ym,JR];simp only[L7 xs t hs,I_];by_cases hr:Rt xs;have hl:=hr.1;simp only[hr,AXi,AXh,AZg];by_cases h:t∈xs;have hk:xs.findIdx (fun x=>decide (x=t))<xs.length:=AZK.2 ⟨t,h,by simp⟩;rw[pos,AXp h,AXp h,Bo,rot];generalize xs.findIdx (fun x=>decide (x=t))=k at *;rw[BM,AXZ (by omega)];simp only[ID (AYw hk),OL (AYw hk)];rw[Bt (by simp only[A8,AXs,AYn];omega)];simp only[];rw[Bt (by simp only[A8,Dt,AX2,AYX,AYn];omega)];simp only[Dt,AX2];rw[Pr h,AXo h,BM];simp;simp[hr]
theorem TN(xs:List Int):Ps (xs,())=some (plain xs,()):=by
 rw[XU,Ry,plain];simp only[I_];by_cases hr:Rt xs;have hl:=hr.1;simp only[hr,AXi,AXh,AZg];cases xs with
  |nil=>simp[A8,D_]
  |cons x xs=>
   rw[A8,Be,AXZ (by simp only[AXg];omega)];have i0:idx (x::xs) (0:Int)=some x:=by rw[G2];rfl
   simp only[i0]
   have e:=Ct (step:=IL) (fun i (a:Int)=>(x::xs,a,(i:Int),())) (x::xs) (fun y a=>.inl (Cb a y)) (fun a=>.inl (x::xs,a,())) (fun _ _=>True) (by omega)
    (fun i y a hi hy _=>by
     refine⟨fun m' h' => ?_,fun r h'=>by cases h'⟩
     cases h'
     rw[IL,A8,A_,AXb hi]
     simp only[BK hy]
     rw[A' (by omega)]
     exact⟨rfl,trivial⟩)
    (fun a _=>by rw[IL,A8,A_,AXZ (by omega)]) x trivial
   have e':A9 IL many (x::xs,x,(0:Int),())=_:=e;rw[e',B0];have hmin:(x::xs).foldl (fun a y=>Cb a y) x=Gz (x::xs):=by
    rw[AYI,Gz];have:Cb x x=x:=by rw[Cb];split<;>rfl
    rw[this]
   rw[hmin];have hm:=(FI (xs:=x::xs) (by simp)).1;simp only[O7 (x::xs) _ (by omega),JR,hr,hm,and_self,AX9];simp
 simp[hr]
end Go.Pev.Pl
end
section
namespace Go.Pev.Pl
open Tok
noncomputable instance (n:Int) (xs:List Int):Decidable (TI n xs):=Classical.propDecidable _
end Go.Pev.Pl
end
section
namespace Go.Pev.Pl
open Tok
theorem iw(n t u:Int)(ht:-9223372036854775808≤t∧t≤9223372036854775807):Pb (n,t,u,())=some (Kj n t u,()):=by
 rw[TC,OM,Kj];simp only[S' n t ht,Be];cases Cu n t with
  |none=>rfl
  |some x=>cases x with
   |ver v=>
    by_cases h:v=u<;>simp[Nn,st,h]
   |arc p q=>
    by_cases h:q=u<;>simp[Nn,st,h]
end Go.Pev.Pl
end
section
namespace Go.Pev.Pl
open Tok
theorem AR3(n:Int)(l:List Int)(i:Nat)(hi:i<l.length)(hl:l.length<1073741824)(d5 d6 d7 d8:Bool)(d9 d10:Int)(d11:Bool)(d12 d13 d14 d15 d16:Int)(d17:Bool)(d18 d19 d20 d21 d22 d23 d24 d25 d26:Int)(d27:Bool):
  ∀ (m k cnt:Nat) (acc:List Int),k+m=l.length→acc.length≤k→m<cnt →
  BE Js cnt (n,l,(i:Int),acc,(k:Int),d5,d6,d7,d8,d9,d10,d11,d12,d13,d14,d15,d16,d17,d18,d19,d20,d21,d22,d23,d24,d25,d26,d27,()) =
   some (.inl (n,(i:Int),acc++(List.range' k m).map (fun k=>l.getD ((i+k) % l.length) 0),d5,d6,d7,d8,d9,d10,d11,d12,d13,d14,d15,d16,d17,d18,l,d19,d20,d21,d22,d23,d24,d25,d26,d27,())):=by
 intro m;induction m with
  |zero=>
   intro k cnt acc hk ha hc;obtain⟨cnt,rfl⟩:∃ c,cnt=c+1:=⟨cnt-1,by omega⟩
   rw[BE,Js,A8,A_,AXZ (by omega)];simp
  |succ m ih=>
   intro k cnt acc hk ha hc;obtain⟨cnt,rfl⟩:∃ c,cnt=c+1:=⟨cnt-1,by omega⟩
   have hm:(i+k) % l.length<l.length:=AZE _ (by omega);rw[BE,Js,A8,A_,AXb (by omega)];simp only[];rw[wrap_add (by omega),HX (by omega)];simp only[Es (0:Int) hm,LM];rw[Bt (by simp only[A8,AXg,AXs];omega),A' (by omega)];simp only[Dt];rw[ih (k+1) cnt _ (by omega) (by simp;omega) (by omega)];simp[AYz]
theorem xK(n:Int)(l:List Int)(i:Nat)(hi:i<l.length)(h1:1<l.length)(hl:l.length<1073741824)(hr:∀ x∈l, -9223372036854775808≤x∧x≤9223372036854775807):
  EX (n,l,false,(i:Int),())=if K5 n l i then some (.inl (n,GA l i,true,((i+1:Nat):Int),()))else some (.inl (n,l,false,((i+1:Nat):Int),())):=by
 have hmany:4294967296<many:=by simp only[many];omega
 have m1:(i+1) % l.length<l.length:=AZE _ (by omega);have m2:(i+2) % l.length<l.length:=AZE _ (by omega);have m0:(i+l.length-1) % l.length<l.length:=AZE _ (by omega);have hin:∀ {k:Nat},k<l.length→l.getD k 0∈l:=fun {k} hk=>by rw[AXe,AXj hk,AX5];exact AYp hk
 have w2:w64 ((i:Int)+2)=((i+2:Nat):Int):=by rw[BR (by omega)];omega
 have w3:w64 ((i:Int)+(l.length:Int))=((i+l.length:Nat):Int):=wrap_add (by omega);have w4:w64 (((i+l.length:Nat):Int)-1)=((i+l.length-1:Nat):Int):=Bu (by omega);have f4:ile (4:Int) (l.length:Int)=decide (4≤l.length):=by rw[BZ];by_cases h:4≤l.length;rw[AXb h,AXb (by omega)];rw[AXZ h,AXZ (by omega)]
 rw[EX,A8,A_,AXb hi];simp only[AYL,Es (0:Int) hi];rw[A' (by omega),w2,HX (by omega),HX (by omega)];simp only[Es (0:Int) m1,Es (0:Int) m2,LM,S' n _ (hr _ (hin hi)),f4,K5];by_cases h4:4≤l.length;simp only[h4,AXi,AaN];cases ht:Cu n (l.getD i 0)with
  |none=>rfl
  |some t=>
   cases t with
    |ver v=>rfl
    |arc u v=>simp only[Nn,Be,fb];by_cases c1:l.getD ((i+1) % l.length) 0=v;simp only[c1,AXi,AaN];by_cases c2:l.getD ((i+2) % l.length) 0=En n v u;simp only[c2,AXi,AaN,w3,w4];rw[HX (by omega)];simp only[Es (0:Int) m0,LM,iw n _ u (hr _ (hin m0))];cases Kj n (l.getD ((i+l.length-1) % l.length) 0) u;rfl;simp only[AX9,Bf];have e:=AR3 n l i hi hl false true true true v v true (En n v u) n v u (En n v u) true n (i:Int) (l.length:Int) ((i+l.length:Nat):Int) ((i+l.length-1:Nat):Int) (l.length:Int) (((i+l.length-1) % l.length:Nat):Int) (l.getD ((i+l.length-1) % l.length) 0) u true (l.length-3) 3 many [] (by omega) (by simp) (by omega);have e':BE Js many (n,l,(i:Int),[],(3:Int),_)=_:=e;simp only[e',A' (show i+1<9223372036854775808 by omega)];rfl;simp only[c2,AXu,AZt,AXw,AXv];simp only[c1,AXu,AZt,AXw,AXv]
 simp only[h4,AXu,AZt,AXw,AXv]
theorem AR4(n:Int)(l:List Int)(h1:1<l.length)(hl:l.length<1073741824)(hr:∀ x∈l, -9223372036854775808≤x∧x≤9223372036854775807):
  ∀ (m i cnt:Nat),i+m=l.length→m+1<cnt →
  (∃ k,k<l.length∧K5 n l k=true∧BE EX cnt (n,l,false,(i:Int),())=some (.inl (n,GA l k,true,()))) ∨
  ((∀ k,i≤k→k<l.length→K5 n l k=false)∧BE EX cnt (n,l,false,(i:Int),())=some (.inl (n,l,false,()))):=by
 intro m;induction m with
  |zero=>
   intro i cnt hi hc;obtain⟨cnt,rfl⟩:∃ c,cnt=c+1:=⟨cnt-1,by omega⟩
   right;refine⟨fun k q1 q2=>by omega,?_⟩;rw[BE,EX,A8,A_,AXZ (by omega)]
  |succ m ih=>
   intro i cnt hi hc;obtain⟨cnt,rfl⟩:∃ c,cnt=c+1:=⟨cnt-1,by omega⟩
   rw[BE,xK n l i (by omega) h1 hl hr];cases hlf:K5 n l i;simp only[AXw,AXv];rcases ih (i+1) cnt (by omega) (by omega)with h|⟨h,e⟩
   exact .inl h;refine .inr ⟨fun k q1 q2 => ?_,e⟩;by_cases ek:k=i;rw[ek];exact hlf;exact h k (by omega) q2;simp only[AX9];obtain⟨cnt,rfl⟩:∃ c,cnt=c+1:=⟨cnt-1,by omega⟩
   refine .inl ⟨i,by omega,hlf,?_⟩;rw[BE,EX];cases ilt ((i+1:Nat):Int) (A4 (GA l i))<;>rfl
theorem AR5(n:Int):∀ (m:Nat) (l:List Int) (cnt:Nat),l.length=m→l.length<1073741824→(∀ x∈l, -9223372036854775808≤x∧x≤9223372036854775807)→l.Nodup→m<cnt →
  (¬ TI n l∧BE NK cnt (n,l,())=some (.inl (false,()))) ∨
  ∃ l',BE NK cnt (n,l,())=some (.inr (.inl (n,l',())))∧l'.length≤1∧(TI n l↔TI n l'):=by
 intro m;induction m using Nat.strongRecOn with
  |_ m ih=>
   intro l cnt hm hl hr hn hc;have hmany:4294967296<many:=by simp only[many];omega
   obtain⟨cnt,rfl⟩:∃ c,cnt=c+1:=⟨cnt-1,by omega⟩
   rw[BE,NK,A8,BM];by_cases h1:1<l.length;rw[AXb (by omega)];simp only[Bf];rcases AR4 n l h1 hl hr l.length 0 many (by omega) (by omega)with⟨k,k1,k2,e⟩|⟨k1,e⟩
   have e':BE EX many (n,l,false,(0:Int),())=_:=e;simp only[e',AXh];have hred:=AAL k1 k2;have hiff:=AVS hred hn;have hlen:(GA l k).length=l.length-3:=by simp[GA]
   rcases ih (l.length-3) (by omega) (GA l k) cnt hlen (by omega) (fun x hx=>hr x (yQ k1 x hx)) (AHz hred hn) (by omega)with⟨q1,q2⟩|⟨l',q1,q2,q3⟩
   exact .inl ⟨fun h=>q1 (hiff.1 h),q2⟩;exact .inr ⟨l',q1,q2,hiff.trans q3⟩;have e':BE EX many (n,l,false,(0:Int),())=_:=e;simp only[e',AYL];refine .inl ⟨fun h => ?_,by trivial⟩;obtain⟨l',hl'⟩:=AWe h h1;obtain⟨i,i1,i2⟩:=yY hl';rw[k1 i (by omega) i1]at i2;cases i2;rw[AXZ (by omega)];exact .inr ⟨l,rfl,by omega,Iff.rfl⟩
theorem xL(n:Int)(l:List Int)(hl:l.length<1073741824)(hr:∀ x∈l, -9223372036854775808≤x∧x≤9223372036854775807)(hn:l.Nodup):iW (n,l,())=some (decide (TI n l),()):=by
 have hmany:4294967296<many:=by simp only[many];omega
 rw[cS,Wn,Bt (by simp only[A8,AXs];omega)];simp only[Dt,AX2,Bf];rcases AR5 n l.length l many rfl hl hr hn (by omega)with⟨q1,q2⟩|⟨l',q1,q2,q3⟩
 rw[q2,AXZ q1];rw[q1];simp only[A8,Be];match l',q2,q3 with
 |[],_,q3=>
  have:¬ TI n l:=fun h=>ARD n (q3.1 h)
  simp[this]
 |[t],_,q3=>
  rw[ARC]at q3
  have i0:idx [t] (0:Int)=some t:=by rw[G2];rfl
  have d0:A7 [t] 0 (0:Int)=t:=rfl
  rw[AXb (by simp)]
  simp only[i0,d0,KC]
  by_cases h:In n t
  ·rw[AXb h,AXb (q3.2 h)]
  ·rw[AXZ h,AXZ (fun h2=>h (q3.1 h2))]
end Go.Pev.Pl
end
section
namespace Go.Pev.Pl
open Tok
noncomputable instance (n:Int) (rings:List (List Int)):Decidable (RF n rings):=Classical.propDecidable _
noncomputable instance (n:Int) (xs:List Int):Decidable (RG n xs):=Classical.propDecidable _
end Go.Pev.Pl
end
end
section
section
namespace Go.Pev.Pl
open Tok
theorem aQ(N:Nat)(hN:N≤64)(l:List Int)(hl:l.length<1073741824)(h0:∀ t∈l,0≤t)(d1:List (List Int))(d3 d5:Int)(d8:List Int)(d9:Int)(d10:Bool)(d11:Int)(d12:List Int)(d13 d14:Bool)(d15 d16:List Int)(d17:List (List Int))(d18:List Int)(d19:List (List Int))(d20 d21:Bool)(d22:List Int)(d23 d24:Int)(d25:Bool):
  ∀ (m k cnt:Nat) (met:List Bool) (seen:List Int),k+m=l.length→MB N met seen→(l.drop k).Nodup→seen.length+m<4611686018427387904→m<cnt →
  ((∀ t∈l.drop k,t<(N:Int)→t∉seen)∧∃ met',BE E4 cnt ((N:Int),d1,met,d3,(seen.length:Int),d5,l,(k:Int),d8,d9,d10,d11,d12,d13,d14,d15,d16,d17,d18,d19,d20,d21,d22,d23,d24,d25,()) =
    some (.inr (.inl ((N:Int),d1,met',d3,((seen++(l.drop k).filter (fun t=>decide (t<(N:Int)))).length:Int),d5,d8,d9,d10,d11,d12,d13,d14,d15,d16,d17,d18,d19,d20,d21,d22,d23,d24,d25,())))∧MB N met' (seen++(l.drop k).filter (fun t=>decide (t<(N:Int))))) ∨
  (¬ (∀ t∈l.drop k,t<(N:Int)→t∉seen)∧BE E4 cnt ((N:Int),d1,met,d3,(seen.length:Int),d5,l,(k:Int),d8,d9,d10,d11,d12,d13,d14,d15,d16,d17,d18,d19,d20,d21,d22,d23,d24,d25,())=some (.inl (false,()))):=by
 intro m;induction m with
  |zero=>
   intro k cnt met seen hk hm hn hsl hc;obtain⟨cnt,rfl⟩:∃ c,cnt=c+1:=⟨cnt-1,by omega⟩
   have e:l.drop k=[]:=AYa (by omega);rw[e];refine .inl ⟨by simp,met,?_,by simpa using hm⟩;rw[BE,E4,A8,A_,AXZ (by omega)];simp
  |succ m ih=>
   intro k cnt met seen hk hm hn hsl hc;obtain⟨cnt,rfl⟩:∃ c,cnt=c+1:=⟨cnt-1,by omega⟩
   have hk':k<l.length:=by omega
   have e:l.drop k=l.getD k 0::l.drop (k+1):=by rw[AYH hk',AXe,AXj hk',AX5]
   have hpos:0≤l.getD k 0:=h0 _ (by rw[AXe,AXj hk',AX5];exact AYp hk');rw[BE,E4,A8,A_,AXb hk'];simp only[Es (0:Int) hk'];rw[e]at hn ⊢;generalize l.getD k 0=t at *;rw[AX8]at hn;rw[A' (show k+1<9223372036854775808 by omega),BM];by_cases ht:t<(N:Int);rw[AXb ht];obtain⟨q,rfl⟩:=AXr hpos;have hq:q<met.length:=by rw[hm.1];omega
   have hmq:=hm.2 q (by omega);simp only[Es false hq,LM,ko,hmq];by_cases hs:(q:Int)∈seen;rw[AXb hs];exact .inr ⟨fun h=>h (q:Int) (by simp) ht hs,rfl⟩;rw[AXZ hs];simp only[];have hm':MB N (met.set q true) (seen++[(q:Int)]):=by
    refine⟨by simp[hm.1],fun y hy => ?_⟩;by_cases e2:y=q;subst e2;simp[AXe,hq];have h3:=hm.2 y hy;have e3:¬ (y:Int)=(q:Int):=by omega
    rw[AXe,AYo (AYm e2),← AXe,h3];simp[e3]
   have hlen:(((seen.length:Nat):Int))=((seen.length:Nat):Int):=rfl;have hw:w64 ((seen.length:Int)+1)=((seen++[(q:Int)]).length:Int):=by rw[BR (by omega)];simp
   rw[hw];have hiff:(∀ y∈(q:Int)::l.drop (k+1),y<(N:Int)→y∉seen)↔∀ y∈l.drop (k+1),y<(N:Int)→y∉seen++[(q:Int)]:=by constructor;intro h y hy hyn hm2;simp only[AXq,AYB]at hm2;rcases hm2 with h2|rfl;exact h y (AXx _ hy) hyn h2;exact hn.1 hy;intro h y hy hyn hm2;rcases AXf.1 hy with rfl|hy;exact hs hm2;exact h y hy hyn (by simp[hm2])
   rcases ih (k+1) cnt _ _ (by omega) hm' hn.2 (by simp;omega) (by omega)with⟨q1,met',q2,q3⟩|⟨q1,q2⟩
   refine .inl ⟨hiff.2 q1,met',?_,?_⟩;rw[AaG (by simpa using ht)];rw[q2,AZF];rfl;rw[AaG (by simpa using ht)];simpa using q3;exact .inr ⟨fun h=>q1 (hiff.1 h),q2⟩;rw[AXZ ht];simp only[];have hiff:(∀ y∈t::l.drop (k+1),y<(N:Int)→y∉seen)↔∀ y∈l.drop (k+1),y<(N:Int)→y∉seen:=by constructor;intro h y hy;exact h y (AXx _ hy);intro h y hy hyn;rcases AXf.1 hy with rfl|hy;exact absurd hyn ht;exact h y hy hyn
   rcases ih (k+1) cnt _ _ (by omega) hm hn.2 (by omega) (by omega)with⟨q1,met',q2,q3⟩|⟨q1,q2⟩
   refine .inl ⟨hiff.2 q1,met',?_,?_⟩;rw[AaH (by simpa using ht)];exact q2;rw[AaH (by simpa using ht)];exact q3;exact .inr ⟨fun h=>q1 (hiff.1 h),q2⟩
theorem UT(N:Nat)(hN1:1≤N)(hN:N≤64)(rings:List (List Int))(hlen:rings.length≤64)(hr:∀ l∈rings,l.length<9223372036854775808∧∀ x∈l, -9223372036854775808≤x∧x≤9223372036854775807):
  ∀ (ls:List (List Int)) (i cnt:Nat) (met:List Bool) (last:Int) (seen:List Int),rings.drop i=ls→i≤rings.length→MB N met seen→seen.length≤i*1073741824→ls.length<cnt →
  (okR (N:Int) seen last ls∧∃ met' seen',BE E5 cnt ((N:Int),rings,met,last,(seen.length:Int),(i:Int),())=some (.inr (.inl ((N:Int),rings,(seen'.length:Int),())))∧MB N met' seen'∧seen'=seen++ls.flatten.filter (fun t=>decide (t<(N:Int)))) ∨
  (¬ okR (N:Int) seen last ls∧BE E5 cnt ((N:Int),rings,met,last,(seen.length:Int),(i:Int),())=some (.inl (false,()))):=by
 have hmany:4294967296<many:=by simp only[many];omega
 intro ls;induction ls with
  |nil=>
   intro i cnt met last seen hd hi hm hsl hc;obtain⟨cnt,rfl⟩:∃ c,cnt=c+1:=⟨cnt-1,by simp at hc;omega⟩
   have:rings.length≤i:=by simpa using hd
   refine .inl ⟨trivial,met,seen,?_,hm,by simp⟩;rw[BE,E5,A8,A_,AXZ (by omega)]
  |cons l ls ih=>
   intro i cnt met last seen hd hi hm hsl hc;simp only[AXg]at hc;obtain⟨cnt,rfl⟩:∃ c,cnt=c+1:=⟨cnt-1,by omega⟩
   have hi':i<rings.length:=by refine AYV fun h => ?_;rw[AYa (by omega)]at hd;cases hd
   rw[AYH hi']at hd;simp only[AXz]at hd;obtain⟨hd1,hd2⟩:=hd;have hx:rings[i]? = some l:=by rw[AXj hi',hd1]
   have hmem:l∈rings:=AXk hx;obtain⟨hl,hlr⟩:=hr l hmem;rw[BE,E5,A8,A_,AXb hi',okR];simp only[BK hx,I_];by_cases c2:Rt l;rw[AXb c2];have hl:l.length<1073741824:=by have:=c2.1;omega
   simp only[AXh];cases l with
    |nil=>rw[A8,Be,AXb (by simp)];exact .inr ⟨fun h=>h.1.2.1 rfl,rfl⟩
    |cons x tl=>
     rw[A8,Be,AXZ (by simp only[AXg];omega)];simp only[xL (N:Int) (x::tl) hl hlr c2.2.2];by_cases c4:TI (N:Int) (x::tl);rw[AXb c4];simp only[AXh,TN];rw[Te _ _ (by simp) (by intro y hy;simp only[AYB]at hy;subst hy;obtain⟨a,b,q1,q2⟩:=IK c2 (by simp);have:=AYh List.length q1;rw[q2];simp only[AXg,AXn]at this hl ⊢;omega)]
     have hps:=yj c2 (by simp);have hps2:([plain (x::tl)]=[x::tl])↔Gz (x::tl)=x:=by simpa using hps
     by_cases c3:Gz (x::tl)=x;rw[AXb (hps2.2 c3)];have i0:idx (x::tl) (0:Int)=some x:=by rw[G2];rfl
     simp only[AXh,i0,AZn,BZ];by_cases c1:x≤last;rw[AXb c1];exact .inr ⟨fun h=>by omega,rfl⟩;rw[AXZ c1];simp only[Bf];have hRG:RG (N:Int) (x::tl):=⟨c2,by simp,c3,c4⟩
     rcases aQ N hN (x::tl) hl (fun t ht=>(c2.2.1 t ht).1) rings x (i:Int) (x::tl) ((x::tl).length:Int) false (N:Int) (x::tl) true false (x::tl) (plain (x::tl)) [plain (x::tl)] (x::tl) [x::tl] true false (x::tl) x last false (x::tl).length 0 many met seen (by omega) hm (by rw[AZI];exact c2.2.2) (by omega) (by omega)with⟨q1,met',q2,q3⟩|⟨q1,q2⟩
     rw[AZI]at q1 q3 q2;have q2':BE E4 many ((N:Int),rings,met,x,(seen.length:Int),(i:Int),x::tl,(0:Int),x::tl,((x::tl).length:Int),false,(N:Int),x::tl,true,false,x::tl,plain (x::tl),[plain (x::tl)],x::tl,[x::tl],true,false,x::tl,x,last,false,())=_:=q2;simp only[q2',A' (show i+1<9223372036854775808 by omega)];have hfl:((x::tl).filter (fun t=>decide (t<(N:Int)))).length≤(x::tl).length:=List.length_filter_le _ _;rcases ih (i+1) cnt met' x (seen++(x::tl).filter (fun t=>decide (t<(N:Int)))) hd2 (by omega) q3 (by rw[AXn];omega) (by omega)with⟨p1,met2,seen2,p2,p3,p4⟩|⟨p1,p2⟩
     refine .inl ⟨⟨hRG,by omega,q1,p1⟩,met2,seen2,p2,p3,?_⟩;rw[p4,AYi,AZl,AZF];exact .inr ⟨fun h=>p1 h.2.2.2,p2⟩;rw[AZI]at q1;have q2':BE E4 many ((N:Int),rings,met,x,(seen.length:Int),(i:Int),x::tl,(0:Int),x::tl,((x::tl).length:Int),false,(N:Int),x::tl,true,false,x::tl,plain (x::tl),[plain (x::tl)],x::tl,[x::tl],true,false,x::tl,x,last,false,())=_:=q2;simp only[q2'];exact .inr ⟨fun h=>q1 h.2.2.1,by trivial⟩;rw[AXZ (fun h=>c3 (hps2.1 h))];exact .inr ⟨fun h=>c3 h.1.2.2.1,rfl⟩;rw[AXZ c4];exact .inr ⟨fun h=>c4 h.1.2.2.2,rfl⟩
   rw[AXZ c2];exact .inr ⟨fun h=>c2 h.1.1,rfl⟩
theorem Gx(n:Int)(rings:List (List Int))(hlen:rings.length<1073741824)(hr:∀ l∈rings,l.length<9223372036854775808∧∀ x∈l, -9223372036854775808≤x∧x≤9223372036854775807):
  Pn ((n,(rings,())),())=some (decide (RF n rings),()):=by
 have hmany:4294967296<many:=by simp only[many];omega
 rw[XO,Ru];simp only[BM,A8];by_cases h1:n<1;rw[AXb h1,AXZ (show ¬ RF n rings from fun h=>by have:=h.1.1;omega)];rw[AXZ h1];simp only[];by_cases h2:64<n;rw[AXb h2,AXZ (show ¬ RF n rings from fun h=>by have:=h.1.2;omega)];rw[AXZ h2];simp only[];by_cases h3:n<(rings.length:Int);rw[AXb h3,AXZ (show ¬ RF n rings from fun h=>by have:=AEF (by omega) h.2.1 (by omega) (by omega);omega)]
 rw[AXZ h3];obtain⟨N,rfl⟩:=AXr (show 0≤n by omega);have f1:CZ (N:Int)=true:=(Hz _).2 (by omega);have f2:ile (N:Int) (N:Int)=true:=by rw[BZ];simp
 simp only[f1,f2,AYb,Bool.and_true,Bf];have hMB:MB N (DD (A3 (N:Int)) false) []:=by refine⟨by simp[DD,Mj],fun k hk => ?_⟩;simp[DD,Mj,hk]
 rcases UT N (by omega) (by omega) rings (by omega) hr rings 0 many _ (-1) [] (by simp) (by omega) hMB (by simp) (by omega)with⟨p1,met,seen,p2,p3,p4⟩|⟨p1,p2⟩
 have p2':BE E5 many ((N:Int),rings,DD (A3 (N:Int)) false, -1,(0:Int),(0:Int),())=_:=p2;simp only[p2',Be];obtain⟨q1,q2⟩:=AIn p1 (by simp);rw[← p4]at q1;have hsub:∀ x∈seen,x∈(List.range N).map (fun(k:Nat)=>(k:Int)):=by intro x hx;rw[p4]at hx;simp only[AX2,AY6,List.mem_flatten,AXc]at hx;obtain⟨⟨l,hl,hxl⟩,hxn⟩:=hx;have:=((q2 l hl).1.2.1 x hxl).1;rw[AYE];exact⟨x.toNat,by rw[AYS];omega,by omega⟩
 have hv:∀ v,v∈seen↔(v<(N:Int)∧v∈rings.flatten):=fun v=>by rw[p4,AX2,AY6,AXc,and_comm]
 have hS:Sz (N:Int):=⟨by omega,by omega⟩
 by_cases hc:(seen.length:Int)=(N:Int)
 rw[AXb hc,AXb];refine⟨hS,p1,fun v v1 v2 => ?_⟩;have:=Py q1 hsub (by simp;omega) v (by rw[AYE];exact⟨v.toNat,by rw[AYS];omega,by omega⟩);exact((hv v).1 this).2;rw[AXZ hc,AXZ];rintro⟨_,_,h⟩;have a1:=D6 q1 hsub;have hrn:((List.range N).map (fun(k:Nat)=>(k:Int))).Nodup:=by rw[List.Nodup,AZG];exact List.nodup_range.imp fun h e=>h (by omega)
 have a2:=D6 (a:=(List.range N).map (fun(k:Nat)=>(k:Int))) (b:=seen) hrn fun x hx=>by rw[AYE]at hx;obtain⟨k,hk,rfl⟩:=hx;rw[AYS]at hk;exact(hv _).2 ⟨by omega,h (k:Int) (by omega) (by omega)⟩
 simp only[AYU,AX1]at a1 a2;omega;have p2':BE E5 many ((N:Int),rings,DD (A3 (N:Int)) false, -1,(0:Int),(0:Int),())=_:=p2;simp only[p2'];rw[AXZ (fun h=>p1 h.2.1)]
end Go.Pev.Pl
end
section
namespace Go.Pev.Pl
open Tok
theorem TO(n:Int)(rings:List (List Int))(v:Int)(hlen:rings.length<1073741824)(hr:∀ l∈rings,l.length<9223372036854775808):Kq ((n,(rings,())),v,())=some (plc rings v,()):=by
 rw[XW,Rz]
 have e:=N3 (step:=IM) (fun i=>(v,n,rings,(i:Int),())) rings (fun l=>decide (v∈l)) (fun i=>.inl ((i:Int),())) (.inr (.inl ())) (by omega)
  (fun i l hi hx=>by
   have hl:=hr l (AXk hx)
   rw[IM,A8,A_,AXb hi]
   simp only[BK hx,L7 l v (by omega)]
   rw[A' (by omega),BZ]
   by_cases h:v∈l
   ·obtain⟨k,e,_⟩:=jc h
    rw[e,AXb (by omega),AXb h];rfl
   ·rw[Pr h,AXZ (by omega),AXZ h];rfl)
  (by rw[IM,A8,A_,AXZ (by omega)])
 have e':A9 IM many (v,n,rings,(0:Int),())=_:=e;simp only[e',plc];cases rings.any (fun l=>decide (v∈l))<;>rfl
end Go.Pev.Pl
end
section
namespace Go.Pev.Pl
open Tok
theorem AH2(rest:List (List Int))(r:List Int)(hlen:rest.length<1073741824)(hne:∀ l∈rest,l≠[])(hp:plain r≠[]):pw (rest,r,())=some (XS rest (plain r),()):=by
 rw[pt,ja];simp only[TN];generalize plain r=p at *
 have e:=N3 (step:=L6) (fun i=>(rest,p,(i:Int),())) rest (fun x => !decide (hd x<hd p)) (fun i=>.inl (rest,p,(i:Int),())) (.inl (rest,p,(rest.length:Int),())) (by omega)
  (fun i x hi hx=>by
   rw[L6,A8,A_,AXb hi]
   simp only[BK hx,AEi (hne x (AXk hx)),AEi hp,AQD,BM]
   rw[A' (by omega)]
   by_cases h:hd x<hd p
   ·rw[AXb h];rfl
   ·rw[AXZ h];rfl)
  (by rw[L6,A8,A_,AXZ (by omega)])
 have e':A9 L6 many (rest,p,(0:Int),())=_:=e;have hk:(if rest.any (fun x => !decide (hd x<hd p))then(.inl (rest,p,((rest.findIdx fun x => !decide (hd x<hd p):Nat):Int),()):(List (List Int)×List Int×Int×Unit)⊕Unit)else .inl (rest,p,(rest.length:Int),())) = .inl (rest,p,((rest.findIdx fun x => !decide (hd x<hd p):Nat):Int),()):=by split;rfl;rename_i h;rw[List.findIdx_eq_length.2 fun x hx=>by refine AYV fun hc=>h (AZf.2 ⟨x,hx,by simpa using hc⟩)]
 rw[e',hk];have hle:(rest.findIdx fun x => !decide (hd x<hd p))≤rest.length:=List.findIdx_le_length;rw[XS];generalize (rest.findIdx fun x => !decide (hd x<hd p))=k at *;simp only[OL hle,ID hle];rw[Bt (by simp only[A8,AXs,AYX];omega)];simp only[];rw[Bt (by simp only[A8,Dt,AXn,AXg,AXs,AYX];omega)];simp only[];rw[Bt (by simp only[A8,Dt,AXn,AXg,AXs,AYX,AYn];omega)];simp only[Dt,AX2,AZF,AZC]
theorem Nt(l:List (List Int))(i:Nat)(hi:i<l.length)(hlen:l.length<1073741824):Fw (l,(i:Int),())=some (l.eraseIdx i,()):=by rw[PN,Ll];rw[A' (by omega)];simp only[OL (AYw hi),ID (show i+1≤l.length by omega)];rw[Bt (by simp only[A8,AXs,AYX];omega)];simp only[];rw[Bt (by simp only[A8,Dt,AXn,AXs,AYX,AYn];omega)];simp only[Dt,AX2,List.eraseIdx_eq_take_drop_succ]
end Go.Pev.Pl
end
section
namespace Go.Pev.Pl
open Tok
end Go.Pev.Pl
end
section
namespace Go.Pev.Pl
open Go.RowKit Tok
end Go.Pev.Pl
end
section
namespace Go.Pev.Pl
open Tok
end Go.Pev.Pl
end
section
namespace Go.Pev.Pl
open Tok
theorem rV{n:Int}{rings:List (List Int)}{u v:Int}(h:FR n rings)(iu:In n u)(iv:In n v)(hp:plc rings u=plc rings v):
  Nu ((n,(rings,())),u,v,())=some (n,rings,5,())∧Of ((n,(rings,())),u,v,())=some (n,rings,5,()):=by have hD:=h.dom;have hRF:=M0.2 h;constructor;rw[IB,I5];simp only[H4 n rings u v hD,hRF,iu,iv,and_self,AX9,Be,Kg n rings _ hD.1 (fun l hl=>(hD.2 l hl).1),hp,AXi,AXh];rw[J9,J_];simp only[Gx n rings hD.1 hD.2,hRF,KC,iu,iv,AXi,AXh,TO n rings _ hD.1 (fun l hl=>(hD.2 l hl).1),Be,hp]
theorem AOl{n:Int}{rings:List (List Int)}{u v:Int}{i j:Nat}{A B:List Int}(h:FR n rings)(iu:In n u)(iv:In n v)(hi:rings[i]? = some A)(hj:rings[j]? = some B)(hu:u∈A)(hv:v∈B)(hij:i≠j):
  ∃ zs rest,Nu ((n,(rings,())),u,v,())=some (n,zs,0,())∧Of ((n,(rings,())),u,v,())=some (n,zs,0,())∧FR n zs∧rings.Perm (A::B::rest)∧zs.Perm (plain (Bw n A B u v)::rest)∧Dis n A B:=by
 have hD:=h.dom;have hRF:=M0.2 h;have rA:=h.rg A (AXk hi);have rB:=h.rg B (AXk hj);have hil:=(AYJ.1 hi).1;have hjl:=(AYJ.1 hj).1;have pu:plc rings u=(i:Int):=h.jd hi iu.2.2.2 hu;have pv:plc rings v=(j:Int):=h.jd hj iv.2.2.2 hv;have hperm:rings.Perm (A::B::(rings.eraseIdx (max i j)).eraseIdx (min i j)):=by rcases AaB hij with g|g;rw[AaQ (by omega),AYg (by omega)];exact JW g hi hj;rw[Nat.max_eq_left (by omega),AaR (by omega)];exact(JW g hj hi).trans (List.Perm.swap _ _ _)
 have hdis:Dis n A B:=by have:=KJ hperm h.dis;rw[AYP]at this;exact this.1 B (by simp)
 obtain⟨l1,l2,l3,huv,ho⟩:=NV rA.2.2.2 rB.2.2.2 hu hv iu iv hdis;obtain⟨hRG,hrot⟩:=ZS l1;have hall:Bw n A B u v=u::En n u v::(Bo B v++En n v u::(Bo A u).tail):=rfl;have lA:(Bo A u).length≤1000:=by rw[← (DQ hu).perm.length_eq];exact rA.1.1
 have lB:(Bo B v).length≤1000:=by rw[← (DQ hv).perm.length_eq];exact rB.1.1
 have hsub:((rings.eraseIdx (max i j)).eraseIdx (min i j)).Sublist rings:=(AZu _ _).trans (AZu _ _);have hw1:Fw (rings,((max i j:Nat):Int),())=some (rings.eraseIdx (max i j),()):=Nt _ _ (by omega) hD.1;have hel:(rings.eraseIdx (max i j)).length=rings.length-1:=by rw[List.length_eraseIdx];rw[AXp (by omega)]
 have hw2:Fw (rings.eraseIdx (max i j),((min i j:Nat):Int),())=some ((rings.eraseIdx (max i j)).eraseIdx (min i j),()):=Nt _ _ (by omega) (by have:=hD.1;omega);have hdrop:Df (fun k=>decide ((k:Int)∈[(i:Int),(j:Int)])) 0 rings=(rings.eraseIdx (max i j)).eraseIdx (min i j):=by rcases AaB hij with g|g;rw[AaQ (by omega),AYg (by omega)];exact LL _ i j g rings 0 (by omega) fun k _=>AZh.2 (by simp only[AXf,AY9,AZx];omega);rw[Nat.max_eq_left (by omega),AaR (by omega)];exact LL _ j i g rings 0 (by omega) fun k _=>AZh.2 (by simp only[AXf,AY9,AZx];omega)
 have hrl:((rings.eraseIdx (max i j)).eraseIdx (min i j)).length≤rings.length:=hsub.length_le;generalize (rings.eraseIdx (max i j)).eraseIdx (min i j)=rest at *;have hupr:rest.Pairwise (fun a b=>hd a<hd b):=h.up.sublist hsub;have hner:∀ l∈rest,l≠[]:=fun l hl=>(h.rg l (hsub.subset hl)).2.1;have hdd:=KJ hperm h.dis;rw[AYP,AYP]at hdd;have hheads:∀ x∈rest,hd x≠hd (plain (Bw n A B u v)):=by intro x hx e;have g1:=Nj hRG;have g2:=(l3 _ g1.2.2.2).1 (hrot.perm.mem_iff.2 (SY hRG.2.1));have g3:hd (plain (Bw n A B u v))∈x:=e▸SY (hner x hx);rcases g2 with g|g;exact hdd.1 x (by simp[hx]) _ g g1.2.2.2 g3;exact hdd.2.1 x hx _ g g1.2.2.2 g3
 have hup:=ADd hupr hheads;have hpz:=dU rest (plain (Bw n A B u v));refine⟨XS rest (plain (Bw n A B u v)),rest,?_,?_,AFi h hperm hRG (fun t ht=>by rw[← hrot.perm.mem_iff];exact l3 t ht) hpz hup,hperm,hpz,hdis⟩;obtain⟨ys,y1,y2,y3⟩:=cJ n rings [(i:Int),(j:Int)] [Bw n A B u v] hD.1 (by simp) (by simp) (fun l hl=>(h.rg l hl).2.1) (by simp;exact hRG.2.1);have hys:ys=XS rest (plain (Bw n A B u v)):=by refine TD hup (y2.trans ?_) y3;rw[hdrop];exact(AZQ (l₁:=rest) (l₂:=[plain (Bw n A B u v)])).trans hpz.symm
 rw[hys]at y1;rw[IB,I5];have s1:Cv (Bo A u) (0:Int) (1:Int)=some [u]:=by have:=iq (xs:=Bo A u) (l:=0) (h:=1) (by omega) (by rw[l2];simp);rw[l2]at this ⊢;exact this
 have s2:Cv (Bo A u) (1:Int) (A4 (Bo A u))=some (Bo A u).tail:=by have:=ID (xs:=Bo A u) (l:=1) (by rw[l2];simp);rw[AY8]at this;exact this
 have d1:E' 0 (A3 (A4 [u])) (Bo A u)=[u]:=by rw[l2];rfl
 have d2:E' 1 (A3 (A4 (Bo A u).tail)) (Bo A u)=(Bo A u).tail:=by rw[E',A8,Mj,AY8,AZJ]
 have hcat:He ([[u],[En n u v],Bo B v,[En n v u],(Bo A u).tail],())=some (Bw n A B u v,()):=by rw[Ms _ (by simp) (by simp;omega)];simp[Bw]
 have ne:((i:Int))≠(j:Int):=by omega
 simp only[H4 n rings u v hD,hRF,iu,iv,and_self,AX9,Be,Kg n rings _ hD.1 (fun l hl=>(hD.2 l hl).1),pu,pv,ne,AXi,AXu,AXh,BK hi,BK hj,dQ,JR,rA.1,rB.1,hu,hv,s1,s2,oT,d1,d2,hcat,y1];rw[J9,J_];have s2:Cv (Bo A u) (1:Int) (A4 (Bo A u))=some (Bo A u).tail:=by have:=ID (xs:=Bo A u) (l:=1) (by rw[l2];simp);rw[AY8]at this;exact this
 have d2:E' 1 (A3 (A4 (Bo A u).tail)) (Bo A u)=(Bo A u).tail:=by rw[E',A8,Mj,AY8,AZJ]
 have ne:((i:Int))≠(j:Int):=by omega
 have f1:fits (A4 [u,En n u v]+A4 (Bo B v))=true:=Bt (by simp only[A8,AXg,AXs];omega);have f2:fits (A4 (BT [u,En n u v] (Bo B v))+A4 [En n v u])=true:=Bt (by simp only[A8,Dt,AXn,AXg,AXs];omega);have f3:fits (A4 (BT (BT [u,En n u v] (Bo B v)) [En n v u])+A4 (Bo A u).tail)=true:=Bt (by simp only[A8,Dt,AXn,AXg,AXs,List.length_tail];omega);have hcat:BT (BT (BT [u,En n u v] (Bo B v)) [En n v u]) (Bo A u).tail=Bw n A B u v:=by simp[Dt,Bw]
 have hput:pw (rest,Bw n A B u v,())=some (XS rest (plain (Bw n A B u v)),()):=AH2 rest _ (by have:=hD.1;omega) hner hRG.2.1;simp only[Gx n rings hD.1 hD.2,hRF,KC,iu,iv,AXi,AXh,TO n rings _ hD.1 (fun l hl=>(hD.2 l hl).1),pu,pv,Be,ne,AXu,BK hi,BK hj,O7 A u (by have:=rA.1.1;omega),O7 B v (by have:=rB.1.1;omega),JR,rA.1,rB.1,hu,hv,and_self,AX9,fb,f1,f2,s2,d2,f3,APB,APA,hw1,hw2,hcat,hput]
theorem ai{n:Int}{rings:List (List Int)}{u v:Int}(hD:Dom rings)(h:¬ (RF n rings∧In n u∧In n v)):
  ∃ e,e≠0∧(∃ b,e=b∧(b=1∨b=10))∧Nu ((n,(rings,())),u,v,())=some (n,rings,e,())∧Of ((n,(rings,())),u,v,())=some (n,rings,e,()):=by by_cases h1:RF n rings;have h2:¬ (In n u∧In n v):=fun h2=>h ⟨h1,h2⟩;refine⟨10,by omega,⟨10,rfl,.inr rfl⟩,?_,?_⟩;rw[IB,I5];simp only[H4 n rings u v hD,h1,h2,AX9,AXv,Be];rfl;rw[J9,J_];simp only[Gx n rings hD.1 hD.2,h1,KC,AXi,AXh];by_cases hu:In n u;have hv:¬ In n v:=fun hv=>h2 ⟨hu,hv⟩;simp[hu,hv];simp[hu];refine⟨1,by omega,⟨1,rfl,.inl rfl⟩,?_,?_⟩;rw[IB,I5];simp only[H4 n rings u v hD,h1,AXv,Be];rfl;rw[J9,J_];simp only[Gx n rings hD.1 hD.2,h1,AXu,AYL]
theorem ABk{n:Int}{rings:List (List Int)}(u v:Int)(hD:Dom rings):∃ zs e,Nu ((n,(rings,())),u,v,())=some (n,zs,e,())∧Of ((n,(rings,())),u,v,())=some (n,zs,e,())∧Dom zs:=by by_cases h:RF n rings∧In n u∧In n v;obtain⟨h1,iu,iv⟩:=h;have hF:=M0.1 h1;obtain⟨i,A,pu,hi,hu,_⟩:=OR (hF.cov u iu);obtain⟨j,B,pv,hj,hv,_⟩:=OR (hF.cov v iv);by_cases hij:i=j;obtain⟨q1,q2⟩:=rV hF iu iv (by rw[pu,pv,hij]);exact⟨_,_,q1,q2,hD⟩;obtain⟨zs,rest,q1,q2,q3,_⟩:=AOl hF iu iv hi hj hu hv hij;exact⟨_,_,q1,q2,q3.dom⟩;obtain⟨e,_,_,q1,q2⟩:=ai hD h;exact⟨_,_,q1,q2,hD⟩
end Go.Pev.Pl
end
section
namespace Go.Pev.Pl
open Tok
end Go.Pev.Pl
end
section
namespace Go.Pev.Pl
open Tok
instance (n v:Int):Decidable (In n v):=inferInstanceAs (Decidable (_∧_))
instance (n:Int):Decidable (Sz n):=inferInstanceAs (Decidable (_∧_))
end Go.Pev.Pl
end
section
namespace Go.Pev.Pl
instance (xs:List Int):Decidable (Rt xs):=inferInstanceAs (Decidable (_∧_∧_))
end Go.Pev.Pl
end
section
namespace Go.Pev.Pl
open Tok
noncomputable instance (n:Int) (xs:List Int):Decidable (TI n xs):=Classical.propDecidable _
end Go.Pev.Pl
end
section
namespace Go.Pev.Pl
open Tok
noncomputable instance (n:Int) (rings:List (List Int)):Decidable (RF n rings):=Classical.propDecidable _
noncomputable instance (n:Int) (xs:List Int):Decidable (RG n xs):=Classical.propDecidable _
end Go.Pev.Pl
end
section
namespace Go.Pev.Pl
open Tok
theorem oS(n:Int)(rings:List (List Int))(l:List (Int×Int×Unit))(hD:Dom rings)(hs:l.length<9223372036854775808):Vx ((n,(rings,())),l,())=some (uD n rings (l.all fun e=>decide (In n e.1)&&decide (In n e.2.1)),()):=by
 rw[Ww,Rh];simp only[Gx n rings hD.1 hD.2,uD];by_cases h:RF n rings;simp only[h,AXi,AXh,AX9]
 have e:=N3 (step:=IC) (fun i=>(l,n,rings,(i:Int),())) l (fun e => !(decide (In n e.1)&&decide (In n e.2.1))) (fun _=>.inl ((10:Int),())) (.inr (.inl ())) hs
  (fun i x hi hx=>by
   rw[IC,A8,A_,AXb hi]
   simp only[BK hx,BM,BZ]
   rw[A' (by omega)]
   have q1:=ABr (v:=x.1) h.1
   have q2:=ABr (v:=x.2.1) h.1
   by_cases c1:x.1<0
   ·rw[AXb c1,Bool.true_or]at q1
    have:decide (In n x.1)=false:=by simpa using q1.symm
    simp[c1,this]
   ·by_cases c2:n≤x.1
    ·rw[AXb c2,Bool.or_true]at q1
     have:decide (In n x.1)=false:=by simpa using q1.symm
     simp[c1,c2,this]
    ·rw[AXZ c1,AXZ c2]at q1
     have g1:decide (In n x.1)=true:=by simpa using q1.symm
     by_cases c3:x.2.1<0
     ·rw[AXb c3,Bool.true_or]at q2
      have:decide (In n x.2.1)=false:=by simpa using q2.symm
      simp[c1,c2,c3,this]
     ·by_cases c4:n≤x.2.1
      ·rw[AXb c4,Bool.or_true]at q2
       have:decide (In n x.2.1)=false:=by simpa using q2.symm
       simp[c1,c2,c3,c4,this]
      ·rw[AXZ c3,AXZ c4]at q2
       have g2:decide (In n x.2.1)=true:=by simpa using q2.symm
       simp[c1,c2,c3,c4,g1,g2])
  (by rw[IC,A8,A_,AXZ (by omega)])
 have e':A9 IC many (l,n,rings,(0:Int),())=_:=e;rw[e',List.any_eq_not_all_not];simp only[Bool.not_not];cases l.all fun e=>decide (In n e.1)&&decide (In n e.2.1)<;>rfl;simp[h]
end Go.Pev.Pl
end
section
namespace Go.Pev.Pl
open Tok
end Go.Pev.Pl
end
section
namespace Go.Pev.Pl
open Tok
end Go.Pev.Pl
end
section
namespace Go.Pev.Pl
open Tok
end Go.Pev.Pl
end
section
namespace Go.Pev.Pl
open Tok
theorem pe{N:Nat}(h1:1≤N)(hN:N≤64){ts:List Tie}(hs:ts.length≤400)(ho:oks N ts){out:List Int}(hc:nZ (N:Int) (trs ts ts.length) out):
  HW (((N:Int),(ts,())),())=some (decide ((cnt out N:Int)=(N:Int)-(trs ts ts.length).length),()):=by
 have R:=Pm N hN ts hs;rw[AXp ho]at R;have hin:=xH hN ho;have hlen:=iU ts ts.length;obtain⟨o2,e2,c2⟩:=Gl (N:Int) (trs ts ts.length) ⟨by omega,by omega⟩ (by omega) hin;have:=nZ.unique h1 hN hc c2;subst this;have hol:out.length=N:=by have:=hc.len;omega
 rw[F8,F9];simp only[BM,A8];rw[AXZ (show ¬ (N:Int)<1 by omega),AXZ (show ¬ 64<(N:Int) by omega),AXZ (show ¬ 400<(ts.length:Int) by omega)];simp only[R,e2,Nv N hN _ _ out hol,Be];rw[BR (by omega)]
end Go.Pev.Pl
end
section
namespace Go.Pev.Pl
open Tok
end Go.Pev.Pl
end
section
namespace Go.Pev.Pl
open Tok
def AWj(x:Edge)(b:Bool):Tie:=(x.1,x.2.1,0,b,())
def AXW(ts:List Tie)(xs:List Edge)(bs:List Bool)(k:Nat):List Tie:=(List.range k).foldl (fun a i=>AXT a (AWj (xs.getD i (0,0,())) (bs.getD i false))) ts
end Go.Pev.Pl
end
section
namespace Go.Pev.Pl
open Tok
end Go.Pev.Pl
end
section
namespace Go.Pev.Pl
open Tok
end Go.Pev.Pl
end
section
namespace Go.Pev.Pl
open Tok
end Go.Pev.Pl
end
section
namespace Go.Pev.Pl
open Tok
end Go.Pev.Pl
end
end
section
section
namespace Go.Pev.Pl
open Tok
end Go.Pev.Pl
end
section
namespace Go.Pev.Pl
open Tok
theorem AUs{N:Nat}(h1:1≤N)(hN:N≤64){a:Int}(h:0≤a∧a<(N:Int)):In (N:Int) a:=⟨by omega,by omega,h.1,h.2⟩
theorem AQT{N:Nat}(h1:1≤N)(hN:N≤64){l:List Edge}{out:List Int}(hc:nZ (N:Int) l out):cnt out N=cc N l:=by
 unfold cnt cc;rw[List.countP_eq_length_filter];congr 1;refine List.filter_congr fun k hk => ?_;have hk:k<N:=by simpa using hk
 have ik:=AUs h1 hN (a:=(k:Int)) ⟨by omega,by omega⟩;have hg:out.getD k 0=cl out (k:Int):=by unfold cl;rw[AYG]
 rw[hg,AZ5,AZM,AOi];constructor;intro h j hj hcn;have:=hc.least (k:Int) (j:Int) ik (AUs h1 hN ⟨by omega,by omega⟩) hcn.symm;omega;intro h;have a1:=hc.isin _ ik;have a2:=hc.con _ ik;have a3:=hc.least (k:Int) (k:Int) ik ik (.refl _);obtain⟨m,hm⟩:=AXr a1.2.2.1;rw[hm]at a2 a3 ⊢;by_cases hlt:m<k;exact absurd a2.symm (h m hlt);omega
theorem FC.count{N:Nat}(h1:1≤N)(hN:N≤64){rings:List (List Int)}{l:List Edge}(h:FC (N:Int) rings l)(hs:l.length<1073741824)(ha:∀ e∈l,In (N:Int) e.1∧In (N:Int) e.2.1):rings.length=cc N l:=by obtain⟨o,_,c⟩:=Gl (N:Int) l ⟨by omega,by omega⟩ hs ha;rw[TM h c,AQT h1 hN c]
theorem pd{N:Nat}(h1:1≤N)(hN:N≤64){ts:List Tie}(hs:ts.length≤400)(ho:oks N ts):HW (((N:Int),(ts,())),())=some (true,())↔Fo N (trs ts ts.length):=by
 have hlen:=iU ts ts.length;obtain⟨o,_,c⟩:=Gl (N:Int) (trs ts ts.length) ⟨by omega,by omega⟩ (by omega) (xH hN ho);rw[pe h1 hN hs ho c,AQT h1 hN c];unfold Fo;constructor;intro h;have:decide ((cc N (trs ts ts.length):Int)=(N:Int)-(trs ts ts.length).length)=true:=by injection h with h;injection h
 have:=AZq this;omega;intro h;rw[AXb (by omega)]
end Go.Pev.Pl
end
section
namespace Go.Pev.Pl
open Tok
end Go.Pev.Pl
end
section
namespace Go.Pev.Pl.SE
open Go.Sort
def ok(_:Int×Int×Unit):Prop:=True
def okz:Int×Int×Unit:=(0,0,())
theorem Xs:ok okz:=trivial
def lt(x y:Int×Int×Unit):Bool:=decide (x.1<y.1∨(x.1=y.1∧x.2.1<y.2.1))
theorem swo:SWO lt:=⟨fun x=>by simp[lt],fun x y z h1 h2=>by simp only[lt,AXc]at *;omega,fun x y z h1 h2=>by simp only[lt,AYM]at *;omega⟩
end Go.Pev.Pl.SE
end
section
namespace Go.Pev.Pl.ST
open Go.Sort
def ok(_:Int×Int×Int×Bool×Unit):Prop:=True
def okz:Int×Int×Int×Bool×Unit:=(0,0,0,false,())
theorem Xs:ok okz:=trivial
def lt(x y:Int×Int×Int×Bool×Unit):Bool:=decide (x.1<y.1∨(x.1=y.1∧x.2.1<y.2.1))
theorem swo:SWO lt:=⟨fun x=>by simp[lt],fun x y z h1 h2=>by simp only[lt,AXc]at *;omega,fun x y z h1 h2=>by simp only[lt,AYM]at *;omega⟩
end Go.Pev.Pl.ST
end
section
namespace Go.Pev.Pl
open Tok
section
variable {α β:Type} [DecidableEq α]
end
end Go.Pev.Pl
end
section
namespace Go.Pev.Pl
open Tok
noncomputable def grown(N:Nat)(ts:List Tie)(l:List Edge):List Tie:=AXW ts (AQS N ts l) (gfl (trs ts ts.length) (AQS N ts l)) (AQS N ts l).length
structure RG2(N:Nat)(ts:List Tie):Prop where
 h1:1≤N
 hN:N≤64
 ht:ts.length≤400
 oks:oks N ts
 fo:Fo N (trs ts ts.length)
theorem RG2.r21{N:Nat}{ts:List Tie}(h:RG2 N ts):HW (((N:Int),(ts,())),())=some (true,()):=(pd h.h1 h.hN h.ht h.oks).2 h.fo
theorem RG2.lr{N:Nat}{ts:List Tie}(h:RG2 N ts):E7 (((N:Int),(ts,())),())=some (true,()):=by obtain⟨b,h1,h2,_⟩:=ZK (N:Int) ts (by have:=h.ht;omega);rw[h.r21]at h1;cases h1;exact h2
theorem AHv(n:Int)(ts:List Tie)(hl:ts.length<4611686018427387904):(HW ((n,(ts,())),())=some (false,())∧E7 ((n,(ts,())),())=some (false,()))∨∃ N:Nat,n=(N:Int)∧RG2 N ts:=by obtain⟨b,h1,h2,h3⟩:=ZK n ts hl;cases b;exact .inl ⟨h1,h2⟩;obtain⟨N,rfl,q1,q2,q3,q4⟩:=h3 rfl;exact .inr ⟨N,rfl,q1,q2,q3,q4,(pd q1 q2 q3 q4).1 h1⟩
theorem RG2.inE{N:Nat}{ts:List Tie}(h:RG2 N ts):∀ e∈ts.map ed,In (N:Int) e.1∧In (N:Int) e.2.1:=AWK h.hN h.oks
end Go.Pev.Pl
end
section
namespace Go.Pev.Pl
open Tok
end Go.Pev.Pl
end
end
section
namespace Go.Pev.Pl
open Tok
theorem ALu(ts:List Tie)(t:Tie)(k:Int):trk (ts++[t]) k=trk ts k++if t.2.2.2.1=true∧k≤t.2.2.1 then [ed t]else []:=by rw[xI];congr 1;unfold trk;rw[List.filter_cons];by_cases h:t.2.2.2.1=true∧k≤t.2.2.1;rw[AXp h,h.1,AXb h.2];rfl;rw[AXo h,AXo];rfl;rw[AXd,AXc];exact h
theorem oC(k:Int):∀ (ts a:List Tie) (acc:List Edge),acc=trk a k→ts.foldl (fun acc t=>if t.2.2.2.1=true∧k≤t.2.2.1 then acc++[ed t]else acc) acc=trk (a++ts) k:=by
 intro ts;induction ts with
  |nil=>intro a acc h;simpa using h
  |cons t ts ih=>intro a acc h;rw[AYI,ih (a++[t])];simp;rw[ALu,← h];split<;>simp
theorem AR2(ts:List Tie)(k:Int):(trk ts k).length≤ts.length:=by unfold trk;rw[AYU];exact List.length_filter_le _ _
theorem AR1(ts:List Tie)(k:Int):∀ e∈trk ts k,e∈ts.map ed:=by intro e he;obtain⟨t,h1,_,_,rfl⟩:=ATA.1 he;exact AYE.2 ⟨t,h1,rfl⟩
theorem AOd(n:Int)(ts:List Tie)(hs:ts.length≤400)(k:Int):R9 ((n,(ts,())),k,())=some (trk ts k,()):=by
 rw[R8,P8]
 have e:=Ct (step:=Ec) (fun i (a:List Edge)=>(k,a,ts,A4 ts,(i:Int),())) ts (fun t a=>.inl (if t.2.2.2.1=true∧k≤t.2.2.1 then a++[ed t]else a)) (fun a=>.inl (a,())) (fun i a=>a.length≤i) (by omega)
  (fun i x a hi hx ha=>by
   refine⟨fun m' h' => ?_,fun r h'=>(by cases h')⟩
   cases h'
   constructor
   ·rw[Ec,A8,A_,AXb hi]
    simp only[BK hx,A8]
    rw[A' (by omega),BZ,Bt (by simp only[AXg,AXs];omega)]
    cases h4:x.2.2.2.1
    ·simp
    ·by_cases h5:k≤x.2.2.1
     ·simp[h5,ed,BT]
     ·simp[h5]
   ·split
    ·rw[AXn];simp;omega
    ·omega)
  (fun a _=>by rw[Ec,A8,A_,AXZ (by omega)]) [] (AXl _)
 have e':A9 Ec many (k,[],ts,A4 ts,(0:Int),())=_:=e;simp only[e'];rw[B0 (fun(t:Tie) (a:List Edge)=>if t.2.2.2.1=true∧k≤t.2.2.1 then a++[ed t]else a),oC k ts [] [] rfl];rfl
theorem AG3(n:Int)(ts:List Tie)(hs:ts.length≤400)(k:Int):Vt ((n,(ts,())),k,())=some (trk ts k,()):=by
 rw[Wm,Re]
 have e:=Ct (step:=H_) (fun i (a:List Edge)=>(k,n,ts,a,(i:Int),())) ts (fun t a=>.inl (if t.2.2.2.1=true∧k≤t.2.2.1 then a++[ed t]else a)) (fun a=>.inl (a,())) (fun i a=>a.length≤i) (by omega)
  (fun i x a hi hx ha=>by
   refine⟨fun m' h' => ?_,fun r h'=>(by cases h')⟩
   cases h'
   constructor
   ·rw[H_,A8,A_,AXb hi]
    simp only[BK hx,A8]
    rw[A' (by omega),BZ,Bt (by simp only[AXg,AXs];omega)]
    cases h4:x.2.2.2.1
    ·simp
    ·by_cases h5:k≤x.2.2.1
     ·simp[h5,ed,BT]
     ·simp[h5]
   ·split
    ·rw[AXn];simp;omega
    ·omega)
  (fun a _=>by rw[H_,A8,A_,AXZ (by omega)]) [] (AXl _)
 have e':A9 H_ many (k,n,ts,[],(0:Int),())=_:=e;simp only[e'];rw[B0 (fun(t:Tie) (a:List Edge)=>if t.2.2.2.1=true∧k≤t.2.2.1 then a++[ed t]else a),oC k ts [] [] rfl];rfl
theorem RG2.inK{N:Nat}{ts:List Tie}(h:RG2 N ts)(k:Int):∀ e∈trk ts k,In (N:Int) e.1∧In (N:Int) e.2.1:=fun e he=>h.inE e (AR1 ts k e he)
theorem RG2.AXU{N:Nat}{ts:List Tie}(h:RG2 N ts)(k:Int):(trk ts k).length≤400:=AYx (AR2 ts k) h.ht
end Go.Pev.Pl
end
section
namespace Go.Pev.Pl
open Tok
end Go.Pev.Pl
end
section
namespace Go.Pev.Pl
open Tok
end Go.Pev.Pl
end
section
namespace Go.Pev.Pl
open Tok
end Go.Pev.Pl
end
section
namespace Go.Pev.Pl
open Tok
end Go.Pev.Pl
end
section
namespace Go.Pev.Pl
open Tok
end Go.Pev.Pl
end
section
namespace Go.Pev.Pl
open Tok
end Go.Pev.Pl
end
section
namespace Go.Pev.Pl
open Tok
end Go.Pev.Pl
end
section
namespace Go.Pev.Pl
open Tok
end Go.Pev.Pl
end
section
namespace Go.Pev.Pl
section
variable {N top:Nat} {ts w:List Tie} (hp:w.Perm ts) (hi:∀ x∈ts,InE N (ed x)) (hl:∀ t∈ts,0≤t.2.2.1∧t.2.2.1≤(top:Int)) (hfo:Fo N (trk ts 0)) (hlie:∀ x∈ts,x.2.2.2.1=false→Con (trk ts x.2.2.1) x.1 x.2.1)
include hp hi
include hl hfo hlie
end
end Go.Pev.Pl
end
section
namespace Go.Pev.Pl
open Tok
end Go.Pev.Pl
end
section
namespace Go.Pev.Pl
open Tok
end Go.Pev.Pl
end
section
namespace Go.Pev.Pl
open Tok
noncomputable section
end
end Go.Pev.Pl
end
section
namespace Go.Pev.Pl
open Tok
end Go.Pev.Pl
end
section
namespace Go.Pev.Pl
open Tok
end Go.Pev.Pl
end
section
namespace Go.Pev.Pl
open Tok
def lvl(ts:List Tie)(k:Int):List Tie:=ts.filter fun t=>decide (t.2.2.1=k)
end Go.Pev.Pl
end
section
namespace Go.Pev.Pl
open Tok
section
variable (n:Int) (ts:List Tie)
end
end Go.Pev.Pl
end
section
namespace Go.Pev.Pl
open Tok
def mid(f:Int→Int)(xs:List Int)(i:Nat):List Int:=(xs.take i).map f++xs.drop i
def lb(at0:List Int)(v:Int):Int:=at0.getD v.toNat 0
end Go.Pev.Pl
end
section
namespace Go.Pev.Pl
open Tok
end Go.Pev.Pl
end
section
namespace Go.Pev.Pl
section
variable {α β:Type} [DecidableEq α]
end
end Go.Pev.Pl
end
section
namespace Go.Pev.Pl
open Tok
end Go.Pev.Pl
end
section
namespace Go.Pev.Pl
open Tok
end Go.Pev.Pl
end
section
namespace Go.Pev.Pl
open Tok
end Go.Pev.Pl
end
section
namespace Go.Pev.Pl
open Tok
section
variable (n:Int) (a2 a3:Bool) (a4 a5 top:Int)
end
end Go.Pev.Pl
end
section
namespace Go.Pev.Pl
section
variable {α:Type} (z:α)
end
end Go.Pev.Pl
end
section
namespace Go.Pev.Pl
open Tok
end Go.Pev.Pl
end
section
namespace Go.Pev.Pl
open Tok
end Go.Pev.Pl
end
section
namespace Go.Pev.Pl
open Tok
end Go.Pev.Pl
end
section
namespace Go.Pev.Pl
open Tok
theorem VU{n:Int}(l:List Edge)(hs:l.length<1073741824)(ha:∀ e∈l,In n e.1∧In n e.2.1):
  ∀ (m i c1 c2:Nat) (rings:List (List Int)) (t1 t2:List Bool),i+m=l.length→t1.length=i→t2.length=i→FC n rings (l.take i)→m<c1→m<c2 →
  ∃ zs b1 b2,BE IV c1 (l,n,rings,(0:Int),t1,(i:Int),())=some (.inl (n,zs,(0:Int),b1,()))∧BE DP c2 (n,rings,(0:Int),t2,l,(l.length:Int),(i:Int),())=some (.inl (n,zs,(0:Int),b2,()))∧FC n zs l:=by
 intro m;induction m with
  |zero=>
   intro i c1 c2 rings t1 t2 hi ht1 ht2 h hc1 hc2;obtain⟨c1,rfl⟩:∃ c,c1=c+1:=⟨c1-1,by omega⟩
   obtain⟨c2,rfl⟩:∃ c,c2=c+1:=⟨c2-1,by omega⟩
   rw[AY7 (by omega)]at h;refine⟨rings,t1,t2,?_,?_,h⟩;rw[BE,IV,A8,A_,AXZ (by omega)];rw[BE,DP,A_,AXZ (by omega)]
  |succ m ih=>
   intro i c1 c2 rings t1 t2 hi ht1 ht2 h hc1 hc2;obtain⟨c1,rfl⟩:∃ c,c1=c+1:=⟨c1-1,by omega⟩
   obtain⟨c2,rfl⟩:∃ c,c2=c+1:=⟨c2-1,by omega⟩
   have hi':i<l.length:=by omega
   have hx:l[i]? = some l[i]:=AXj hi';obtain⟨iu,iv⟩:=ha _ (AYp hi');obtain⟨zs,q,e1,e2,_⟩:=AFj h iu iv;obtain⟨zs',q',f1,f2,_⟩:=ABk (n:=n) (rings:=rings) l[i].1 l[i].2.1 h.fr.dom;rw[e1]at f1;cases f1;rw[← AZe hi']at e2;obtain⟨zs2,b1,b2,g1,g2,g3⟩:=ih (i+1) c1 c2 zs (BT t1 [ieq q 0]) (BT t2 [ieq q 0]) (by omega) (by simp[Dt,ht1]) (by simp[Dt,ht2]) e2 (by omega) (by omega);refine⟨zs2,b1,b2,?_,?_,g3⟩;rw[BE,IV,A8,A_,AXb hi'];simp only[BK hx,f2];rw[A' (by omega),Bt (by simp only[A8,AXg,AXs];omega)];exact g1;rw[BE,DP,A_,AXb hi'];simp only[BK hx,e1];rw[A' (by omega),Bt (by simp only[A8,AXg,AXs];omega)];exact g2
theorem AUI{N:Nat}(h1:1≤N)(hN:N≤64)(l:List Edge)(hs:l.length<1073741824)(ha:∀ e∈l,In (N:Int) e.1∧In (N:Int) e.2.1):
  ∃ zs,fof ((N:Int),l,())=some (((N:Int),(zs,())),0,())∧AS6 ((N:Int),l,())=some (((N:Int),(zs,())),0,())∧FC (N:Int) zs l:=by
 have hF:=ZW h1 hN;have hD:=hF.fr.dom;have hRF:=M0.2 hF.fr;obtain⟨zs,b1,b2,e1,e2,h2⟩:=VU l hs ha l.length 0 many many (CF N) [] [] (by omega) rfl rfl (by simpa using hF) (by simp only[many];omega) (by simp only[many];omega);refine⟨zs,?_,?_,h2⟩;have hth:MZ (((N:Int),(CF N,())),l.flatMap fun e=>[e.1,e.2.1],())=some (0,()):=by have hfl:=si l;rw[Yk _ _ _ hD (by omega),sj,uD,AXp hRF];split;rfl;rename_i hc;exact absurd (AXy.2 fun e he=>AXb (ha e he)) hc
 have hm:HZ (N:Int)=((N:Int),CF N,0,()):=by unfold HZ;rw[AXp (show Sz (N:Int)from⟨by omega,by omega⟩),AYG]
 have e2':BE DP many ((N:Int),CF N,(0:Int),[],l,(l.length:Int),(0:Int),())=_:=e2;rw[AAZ,AE2];simp only[cV,hm,G1,AXh];rw[Sc,Qo,Mi,LK];simp only[Yt l hs,hth,G1,AXh,Bf,A8,e2'];have hall:(l.all fun e=>decide (In (N:Int) e.1)&&decide (In (N:Int) e.2.1))=true:=by rw[AXy];intro e he;obtain⟨h1,h2⟩:=ha e he;simp[h1,h2]
 have e1':A9 IV many (l,(N:Int),CF N,(0:Int),[],(0:Int),())=_:=(Bf _ _ _).trans e1;have hE:uD (N:Int) (CF N) true=0:=by unfold uD;simp[hRF]
 have hL:WD (((N:Int),(CF N,())),l,())=some (((N:Int),(zs,())),b1,0,()):=by rw[X2,SD];simp only[oS (N:Int) (CF N) l hD (by omega),hall];rw[hE];simp only[NZ,AXh,e1']
 have hm:Xw ((N:Int),())=some ((N:Int),CF N,0,()):=by rw[AAB];unfold HZ;rw[AXp (show Sz (N:Int)from⟨by omega,by omega⟩),AYG]
 rw[AEJ,zr];simp only[hm,NZ,AXh,hL]
theorem RG2.both{N:Nat}{ts:List Tie}(h:RG2 N ts)(k:Int):∃ zs,NW (((N:Int),(ts,())),k,())=some (((N:Int),(zs,())),0,())∧Qm (((N:Int),(ts,())),k,())=some (((N:Int),(zs,())),0,())∧FC (N:Int) zs (trk ts k):=by have hl:=h.AXU k;obtain⟨zs,e1,e2,hF⟩:=AUI h.h1 h.hN (trk ts k) (by omega) (h.inK k);refine⟨zs,?_,?_,hF⟩;rw[X4,SF];simp only[h.lr,AXh,AOd (N:Int) ts h.ht k,e1];rw[Tn,O8];simp only[h.r21,AXh,AG3 (N:Int) ts h.ht k,e2]
end Go.Pev.Pl
end
section
namespace Go.Pev.Pl
open Tok
section
variable (n:Int) (ts:List Tie)
end
end Go.Pev.Pl
end
section
namespace Go.Pev.Pl
open Tok
end Go.Pev.Pl
end
section
namespace Go.Pev.Pl
open Tok
end Go.Pev.Pl
end
section
namespace Go.Pev.Pl
open Tok
end Go.Pev.Pl
end
section
namespace Go.Pev.Pl
open Tok
section
variable (a0:Int) (a1:List Tie) (a2 a3 a4:Int) (a5:List (List Int)) (a6:Int) (a7:List (List Int)) (p q:List Edge)
end
end Go.Pev.Pl
end
section
namespace Go.Pev.Pl
open Tok
end Go.Pev.Pl
end
section
namespace Go.Pev.Pl
theorem L5{β:Type}(k:Int):∀ m:List (Int×List β),A7 (m.map Prod.snd) (HH (m.map Prod.fst) k) []=(BA m k).getD []
 |[]=>by simp[HH,A7,BA]
 |(a,b)::m=>by have ih:=L5 k m;simp only[AX4,HH,BA];by_cases h:a=k;simp[h,A7];simp only[h,AXv];rw[← ih];simp[A7]
def Jt(x:Int)(e:Edge):Bool:=decide (e.1=x∨e.2.1=x)
abbrev RM:=List (Int×List (Int×Int×Unit))
def AWl(m:RM)(x:Int):List (Int×Int×Unit):=(BA m x).getD []
end Go.Pev.Pl
end
section
namespace Go.Pev.Pl.SE
open Go.Sort
end Go.Pev.Pl.SE
namespace Go.Pev.Pl
section
variable {N:Nat} {ts:List Tie} {v k:Int} {tks:List Int} {ofm:List (Int×Int)} {outm:RM}
end
end Go.Pev.Pl
end
section
namespace Go.Pev.Pl
end Go.Pev.Pl
end
section
namespace Go.Pev.Pl
section
variable {N:Nat} {ts:List Tie} {v k:Int} {tks:List Int} {ofm:List (Int×Int)} {outm:RM}
end
end Go.Pev.Pl
end
section
namespace Go.Pev.Pl
section
variable {n:Int} {ts:List Tie} {v k e:Int}
end
section
variable {N:Nat} {ts:List Tie} {v k:Int} {tks:List Int} {ofm:List (Int×Int)} {outm:RM}
end
end Go.Pev.Pl
end
section
namespace Go.Pev.Pl
theorem AEU:∀ x:Nat,0<x→∃ k m,x=2 ^ k*(2*m+1):=by
 intro x;induction x using Nat.strongRecOn with
  |_ x ih=>intro hx;by_cases h:x % 2=1;exact⟨0,x/2,by rw[Nat.pow_zero];omega⟩;obtain⟨k,m,e⟩:=ih (x/2) (by omega) (by omega);refine⟨k+1,m,?_⟩;rw[Nat.pow_succ,Nat.mul_comm (2 ^ k) 2,Nat.mul_assoc,← e];omega
theorem QA(k m j:Nat):(2 ^ k*(2*m+1)).testBit j=if j<k then false else if j=k then true else m.testBit (j-k-1):=by
 have:=Nat.testBit_two_pow_mul_add (2*m+1) (Nat.two_pow_pos k) j;rw[AZL]at this;rw[this];by_cases h1:j<k;rw[AXp h1,AXp h1,Nat.zero_testBit];rw[AXo h1,AXo h1];by_cases h2:j=k;subst h2;rw[AXp rfl,AY0,Nat.testBit_zero];simp;rw[AXo h2];obtain⟨d,hd⟩:∃ d,j-k=d+1:=⟨j-k-1,by omega⟩
 rw[hd,Nat.testBit_succ,show(2*m+1)/2=m by omega];rfl
theorem AJD(k m j:Nat):(2 ^ k*(2*m+1)-1).testBit j=if j<k then true else if j=k then false else m.testBit (j-k-1):=by
 have hp:=Nat.two_pow_pos k;have e:2 ^ k*(2*m+1)-1=2 ^ k*(2*m)+(2 ^ k-1):=by rw[Nat.mul_add,AZ0];omega
 rw[e,Nat.testBit_two_pow_mul_add (2*m) (by omega) j];by_cases h1:j<k;rw[AXp h1,AXp h1,Nat.testBit_two_pow_sub_one];simpa using h1;rw[AXo h1,AXo h1];by_cases h2:j=k;subst h2;rw[AXp rfl,AY0,Nat.testBit_zero];simp;rw[AXo h2];obtain⟨d,hd⟩:∃ d,j-k=d+1:=⟨j-k-1,by omega⟩
 rw[hd,Nat.testBit_succ,show(2*m)/2=m by omega];rfl
theorem ATC{k m:Nat}(h:2 ^ k*(2*m+1)<2 ^ 32):2 ^ k*(2*m+1) &&& (2 ^ 32-2 ^ k*(2*m+1))=2 ^ k:=by
 have hp:=Nat.two_pow_pos k;have hpos:0<2 ^ k*(2*m+1):=Nat.mul_pos hp (by omega);have hk:k<32:=by have:2 ^ k*1≤2 ^ k*(2*m+1):=Nat.mul_le_mul_left _ (by omega);exact(Nat.pow_lt_pow_iff_right (a:=2) (by omega)).1 (by omega)
 apply Nat.eq_of_testBit_eq;intro j;have e:2 ^ 32-2 ^ k*(2*m+1)=2 ^ 32-((2 ^ k*(2*m+1)-1)+1):=by omega
 rw[Nat.testBit_and,e,Nat.testBit_two_pow_sub_succ (by omega),QA,AJD,Nat.testBit_two_pow];by_cases h1:j<k;rw[AXp h1];simp;omega;rw[AXo h1,AXo h1];by_cases h2:j=k;subst h2;simp[hk];rw[AXo h2,AXo h2];rw[AXZ (show ¬ k=j by omega)];cases m.testBit (j-k-1)<;>simp
def hgt(x:Nat):Nat:=(((List.range 7).find? fun j=>x.testBit j).map (· + 1)).getD 8
theorem AEk(k m:Nat):hgt (2 ^ k*(2*m+1))=min (k+1) 8:=by
 unfold hgt;by_cases h:k<7;have:(List.range 7).find? (fun j=>(2 ^ k*(2*m+1)).testBit j)=some k:=by rw[AaC];refine⟨by rw[QA,AXo (by omega),AXp rfl],by rw[AYS];exact h,fun j hj => ?_⟩;rw[QA,AXp hj];rfl
 rw[this];simp only[AY5,AX5];omega;have:(List.range 7).find? (fun j=>(2 ^ k*(2*m+1)).testBit j)=none:=by rw[List.find?_eq_none];intro j hj;rw[AYS]at hj;rw[QA,AXp (by omega)];simp
 rw[this];simp only[Option.map_none,Option.getD_none];omega
theorem Yd:hgt 0=8:=by decide
theorem AEj(x:Nat):1≤hgt x∧hgt x≤8:=by rcases AZB x with rfl|h;rw[Yd];omega;obtain⟨k,m,rfl⟩:=AEU x h;rw[AEk];omega
theorem AVJ:((List.range 32).all fun k=>decide (sJ[(2 ^ k*125613361) % 4294967296/134217728]? = some ((k:Nat):Int)∧(2 ^ k*125613361) % 4294967296/134217728<32))=true:=by decide +kernel
theorem ALn(x:Nat)(hx:x<4294967296):AGw ((x:Int),())=some (if x=0 then 32 else((hgt x-1:Nat):Int),())∨∃ k:Nat,AGw ((x:Int),())=some ((k:Int),())∧k≤32∧min (k+1) 8=hgt x:=by
 right;rw[ACs,w8,Be];by_cases h0:x=0;subst h0;rw[AXb (show((0:Nat):Int)=0 from rfl),Yd];exact⟨32,rfl,by omega,by omega⟩;rw[AXZ (by omega)];obtain⟨k,m,rfl⟩:=AEU x (by omega);have hp:=Nat.two_pow_pos k;have hk:k<32:=by have:2 ^ k*1≤2 ^ k*(2*m+1):=Nat.mul_le_mul_left _ (by omega);exact(Nat.pow_lt_pow_iff_right (a:=2) (by omega)).1 (by omega)
 have ha:=ATC (k:=k) (m:=m) (by omega);rw[AEk];generalize 2 ^ k*(2*m+1)=x at *;have e1:IntKind.wrap .u32 (0-(x:Int))=((4294967296-x:Nat):Int):=by rw[IntKind.wrap_u32];omega
 have e2:(BitVec.ofInt (IntKind.bits .u32) (x:Int) &&& BitVec.ofInt (IntKind.bits .u32) ((4294967296-x:Nat):Int)).toNat=2 ^ k:=by
  show(BitVec.ofInt 32 (x:Int) &&& BitVec.ofInt 32 ((4294967296-x:Nat):Int)).toNat=2 ^ k;rw[BitVec.toNat_and,AaD,AaD];have q1:((x:Int) % ((2 ^ 32:Nat):Int)).toNat=x:=by omega
  have q2:(((4294967296-x:Nat):Int) % ((2 ^ 32:Nat):Int)).toNat=4294967296-x:=by omega
  rw[q1,q2];exact ha
 have hk32:2 ^ k≤2 ^ 31:=Nat.pow_le_pow_right (by omega) (by omega);rw[e1,e2,IntWalk.u32_in ((2 ^ k:Nat):Int) ⟨by omega,by omega⟩];have e3:IntKind.wrap .u32 (((2 ^ k:Nat):Int)*125613361)=((2 ^ k*125613361 % 4294967296:Nat):Int):=by rw[IntKind.wrap_u32];omega
 have e4:shr? .u32 ((2 ^ k*125613361 % 4294967296:Nat):Int) (27:Int)=some ((2 ^ k*125613361 % 4294967296/134217728:Nat):Int):=by rw[Rj,oe,AXo (by omega),show min (27:Int).toNat (IntKind.bits .u32)=27 from rfl,AZR _ (by decide)];rfl
 rw[e3];simp only[e4];have ht:=AXy.1 AVJ k (by rw[AYS];exact hk);rw[AZM]at ht;obtain⟨t1,t2⟩:=ht;generalize 2 ^ k*125613361 % 4294967296/134217728=q at *;simp only[BZ,BM];have hl:A4 sJ=32:=rfl;rw[hl,AXb (show(0:Int)≤(q:Int) by omega),AXb (show(q:Int)<32 by omega)];simp only[AYb,fG t1];rw[BR (by omega)];exact⟨k,rfl,by omega,rfl⟩
theorem tf(x:Nat)(hx:x<4294967296):WL ((x:Int),())=some ((hgt x:Int),()):=by
 rw[ZD,Sp];obtain⟨k,e,h1,h2⟩:∃ k:Nat,AGw ((x:Int),())=some ((k:Int),())∧k≤32∧min (k+1) 8=hgt x:=by rcases ALn x hx with e|h;by_cases h0:x=0;rw[AXp h0]at e;subst h0;exact⟨32,e,by omega,by rw[Yd];omega⟩;rw[AXo h0]at e;have:=AEj x;exact⟨hgt x-1,e,by omega,by omega⟩;exact h
 simp only[e];rw[A' (by omega),ATf,← h2];congr 2;omega
theorem AK4(x j:Nat)(hx:x<4294967296)(hj:j≤31):AFS ((x:Int),(j:Int),())=some (if x.testBit j then 1 else 0,()):=by
 rw[uB,lY,BM,BM,AXZ (by omega),AXZ (by omega),IntWalk.u64_in _ (by omega)];have e4:shr? .u32 (x:Int) (j:Int)=some ((x/2 ^ j:Nat):Int):=by rw[Rj,oe,AXo (by omega),AYG,show min j (IntKind.bits .u32)=j from AYg (by show j≤32;omega),AZR _ (Int.pow_nonneg (by omega))];rfl
 rw[e4];have hq:x/2 ^ j≤x:=Nat.div_le_self _ _;have e2:(BitVec.ofInt (IntKind.bits .u32) ((x/2 ^ j:Nat):Int) &&& BitVec.ofInt (IntKind.bits .u32) (1:Int)).toNat=if x.testBit j then 1 else 0:=by
  show(BitVec.ofInt 32 ((x/2 ^ j:Nat):Int) &&& BitVec.ofInt 32 (1:Int)).toNat=_;rw[BitVec.toNat_and,AaD,AaD];have q1:(((x/2 ^ j:Nat):Int) % ((2 ^ 32:Nat):Int)).toNat=x/2 ^ j:=by rw[← Int.natCast_emod,AYG];exact AYW (by omega)
  have q2:((1:Int) % ((2 ^ 32:Nat):Int)).toNat=1:=rfl;rw[q1,q2,Nat.and_one_is_mod];have:x.testBit j=decide (x/2 ^ j % 2=1):=Nat.testBit_eq_decide_div_mod_eq;rw[this];by_cases h:x/2 ^ j % 2=1;simp[h];simp only[h,AXu];have:x/2 ^ j % 2=0:=by omega
  simp[this]
 simp only[e2];by_cases h:x.testBit j=true;simp only[h,AX9];rfl;simp only[h];rfl
theorem kR(x:Nat)(hx:x<4294967296):Qf ((x:Int),())=some ((hgt x:Int),()):=by
 rw[Tl,O5];have hm:10<many:=by simp only[many];omega
 have step:∀ i:Nat,i<7→Dj ((x:Int),((i+1:Nat):Int),())=if x.testBit i then some (.inr (.inl (((i+1:Nat):Int),())))else some (.inl ((x:Int),((i+1+1:Nat):Int),())):=by intro i hi;rw[Dj,BM,AXb (by omega),Bu (by omega),AZp,AK4 x i hx (by omega),A' (by omega)];by_cases h:x.testBit i=true;simp only[h,AX9,Be];rfl;simp only[h,Be];rfl
 have last:Dj ((x:Int),((7+1:Nat):Int),())=some (.inr (.inl ((8:Int),()))):=by rw[Dj,BM,AXZ (by omega)];rfl
 rcases ow (step:=Dj) (fun i=>((x:Int),((i+1:Nat):Int),())) 7 (fun i=>x.testBit i) (fun i=>.inl (((i+1:Nat):Int),())) (.inl (8,())) (by omega) step last with⟨k,hk,hP,hF,e⟩|⟨hP,e⟩
 have e':A9 Dj many ((x:Int),(1:Int),())=_:=e;simp only[e'];have:(List.range 7).find? (fun j=>x.testBit j)=some k:=by rw[AaC];exact⟨hP,by rw[AYS];exact hk,fun j hj=>by rw[hF j hj];rfl⟩
 unfold hgt;rw[this];rfl;have e':A9 Dj many ((x:Int),(1:Int),())=_:=e;simp only[e'];have:(List.range 7).find? (fun j=>x.testBit j)=none:=by rw[List.find?_eq_none];intro j hj;rw[AYS]at hj;rw[hP j hj];simp
 unfold hgt;rw[this];rfl
end Go.Pev.Pl
end
section
namespace Go.Pev.Pl
theorem AVL{σ ρ:Type}{step:σ→Option (σ⊕ρ)}(st:Nat→σ)(N:Nat)(r:ρ)(hN:N<9223372036854775808)(h:∀ i,i<N→step (st i)=some (.inl (st (i+1))))(hr:step (st N)=some (.inr r)):A9 step many (st 0)=some r:=by
 have key:∀ (m i n:Nat),i+m=N→m<n→BE step n (st i)=some r:=by
  intro m;induction m with
   |zero=>
    intro i n hi hn;obtain⟨n,rfl⟩:∃ k,n=k+1:=⟨n-1,by omega⟩
    have:i=N:=by omega
    subst this;rw[BE,hr]
   |succ m ih=>
    intro i n hi hn;obtain⟨n,rfl⟩:∃ k,n=k+1:=⟨n-1,by omega⟩
    rw[BE,h i (by omega)];exact ih (i+1) n (by omega) (by omega)
 rw[Bf];exact key N 0 many (by omega) (by simp only[many];omega)
theorem foldI{α:Type}(f:Nat→α→α)(I:Nat→α→Prop):∀ (m:Nat) (a:α),(∀ k a,k<m→I k a→I (k+1) (f k a))→I 0 a→I m ((List.range m).foldl (fun a k=>f k a) a):=by
 intro m;induction m with
  |zero=>intro a _ h;exact h
  |succ m ih=>intro a hs h0;rw[AYZ,List.foldl_append];exact hs m _ (by omega) (ih a (fun k a hk=>hs k a (by omega)) h0)
theorem jS{m i x:Nat}(h:(List.range m)[i]? = some x):x=i∧i<m:=by obtain⟨h1,h2⟩:=AYJ.1 h;rw[AX1]at h1;rw[List.getElem_range]at h2;exact⟨h2.symm,h1⟩
theorem AP6{α:Type}(n:Nat)(x:α):DD n x=List.replicate n x:=rfl
noncomputable def htF(script:List Int)(t:Int):Int:=if t<0 then 1 else match Sk (script,t,())with
 |some (x,_)=>(hgt x.toNat:Int)
 |none=>1
def U32(l:List Int):Prop:=∀ x∈l,0≤x∧x≤4294967295
theorem AKe(s:List Int)(t:Int):AUP (s,t,())=Sk (s,t,()):=by rw[AFV,ABn,Sj,Q4]<;>rfl
theorem Y'{s:List Int}(hs:U32 s){t:Int}(ht:0≤t):∃ x:Nat,Sk (s,t,())=some ((x:Int),())∧x<4294967296:=by obtain⟨t,rfl⟩:=AXr ht;rw[Sj,Q4,BM,AXZ (by omega),A8,Be];by_cases h0:s.length=0;rw[AXb (by omega)];exact⟨0,rfl,by omega⟩;rw[AXZ (by omega)];simp only[HX (show 0<s.length by omega)];have hm:t % s.length<s.length:=AZE _ (by omega);have hx:s[t % s.length]? = some s[t % s.length]:=AXj hm;have hb:=hs _ (AYp hm);simp only[BK hx];generalize s[t % s.length]=x at *;obtain⟨x,rfl⟩:=AXr hb.1;exact⟨x,rfl,by omega⟩
theorem ATg{s:List Int}(hs:U32 s)(t:Int):1≤htF s t∧htF s t≤8:=by unfold htF;by_cases h:t<0;rw[AXp h];omega;rw[AXo h];obtain⟨x,e,_⟩:=Y' hs (show 0≤t by omega);simp only[e];have:=AEj (x:Int).toNat;omega
theorem rK(f:Int→Int):∀ (xs a:List Int),xs.foldl (fun a x=>a++[f x]) a=a++xs.map f:=by
 intro xs;induction xs with
  |nil=>intro a;simp
  |cons x xs ih=>intro a;rw[AYI,ih];simp
theorem aL{s:List Int}(hs:U32 s)(toks:List Int)(hl:toks.length≤1000):NJ (toks,s,())=some (toks.map (htF s),()):=by
 have e:=Ct (step:=FN) (fun i (a:List Int)=>(s,a,toks,A4 toks,(i:Int),())) toks (fun x a=>.inl (a++[htF s x])) (fun a=>.inl (a,())) (fun i a=>a.length≤i) (by omega)
  (fun i x a hi hx ha=>by
   refine⟨fun m' h' => ?_,fun r h'=>(by cases h')⟩
   cases h'
   constructor
   ·rw[FN,A8,A_,AXb hi]
    simp only[BK hx,A8]
    rw[A' (by omega),BM]
    unfold htF
    by_cases h:x<0
    ·rw[AXb h,AXp h]
     simp only
     rw[Bt (by simp only[AYO];omega)]
     rfl
    ·rw[AXZ h,AXo h]
     obtain⟨y,ey,hy⟩:=Y' hs (show 0≤x by omega)
     simp only[ey,tf y hy,AYG]
     rw[Bt (by simp only[AYO];omega)]
     rfl
   ·simp;omega)
  (fun a _=>by rw[FN,A8,A_,AXZ (by omega)]) [] (AXl _)
 rw[PT,Lr];have e':A9 FN many (s,([]:List Int),toks,A4 toks,(0:Int),())=_:=e;simp only[e'];rw[B0 (fun(x:Int) (a:List Int)=>a++[htF s x]),rK];rfl
theorem bD{s:List Int}(hs:U32 s)(toks:List Int)(hl:toks.length≤1000):Na (toks,s,())=some (toks.map (htF s),()):=by
 have e:=Ct (step:=FY) (fun i (a:List Int)=>(toks,s,a,(i:Int),())) toks (fun x a=>.inl (a++[htF s x])) (fun a=>.inl (a,())) (fun i a=>a.length≤i) (by omega)
  (fun i x a hi hx ha=>by
   refine⟨fun m' h' => ?_,fun r h'=>(by cases h')⟩
   cases h'
   constructor
   ·rw[FY,A8,A_,AXb hi]
    simp only[BK hx,A8,AKe]
    rw[A' (by omega),BZ]
    unfold htF
    by_cases h:x<0
    ·rw[AXZ (by omega),AXp h]
     simp only
     rw[Bt (by simp only[AYO];omega)]
     rfl
    ·rw[AXb (by omega),AXo h]
     obtain⟨y,ey,hy⟩:=Y' hs (show 0≤x by omega)
     simp only[ey,kR y hy,AYG]
     rw[Bt (by simp only[AYO];omega)]
     rfl
   ·simp;omega)
  (fun a _=>by rw[FY,A8,A_,AXZ (by omega)]) [] (AXl _)
 rw[Qe,MX];have e':A9 FY many (toks,s,([]:List Int),(0:Int),())=_:=e;simp only[e'];rw[B0 (fun(x:Int) (a:List Int)=>a++[htF s x]),rK];rfl
structure HO(H:List Int)(n:Nat):Prop where
 len:H.length=n
 pos:0<n
 top:n≤1000
 rng:∀ h∈H,1≤h∧h≤8
theorem HO.at{H:List Int}{n:Nat}(h:HO H n){i:Nat}(hi:i<n):1≤H.getD i 0∧H.getD i 0≤8∧idx H (i:Int)=some (H.getD i 0):=by
 have hl:=h.len;have hm:H.getD i 0∈H:=by rw[AXe,AXj (by omega)];exact AYp _
 have:=h.rng _ hm;exact⟨by omega,by omega,Es 0 (by omega)⟩
def kst(H:List Int)(n i h:Nat):Nat:=(((List.range n).find? fun k=>decide ((h:Int)<H.getD ((i+(k+1)) % n) 0)).map (· + 1)).getD 1
def nxL(H:List Int)(n i:Nat):List Int:=(List.range (H.getD i 0).toNat).map fun h=>(((i+kst H n i h) % n:Nat):Int)
def NX(H:List Int)(n:Nat):List (List Int):=(List.range n).map (nxL H n)
theorem X8{H:List Int}{n i h:Nat}(hn:0<n)(hi:i<n)(hh:(h:Int)<H.getD i 0):
  1≤kst H n i h∧kst H n i h≤n∧(h:Int)<H.getD ((i+kst H n i h) % n) 0∧∀ k,1≤k→k<kst H n i h→H.getD ((i+k) % n) 0≤(h:Int):=by
 unfold kst;cases hf:(List.range n).find? (fun k=>decide ((h:Int)<H.getD ((i+(k+1)) % n) 0))with
  |none=>exfalso;rw[List.find?_eq_none]at hf;have:=hf (n-1) (by rw[AYS];omega);rw[show i+(n-1+1)=i+n by omega,Nat.add_mod_right,AYW hi]at this;exact this (AXb hh)
  |some k=>rw[AaC]at hf;obtain⟨h1,h2,h3⟩:=hf;rw[AYS]at h2;rw[AZM]at h1;simp only[AY5,AX5];refine⟨by omega,by omega,h1,fun j j1 j2 => ?_⟩;have:=h3 (j-1) (by omega);rw[show i+(j-1+1)=i+j by omega]at this;simpa using this
theorem AQh{H:List Int}{n:Nat}(ho:HO H n)(d2 d3:List Int)(d4:List (List Int))(d6:List Int){i h:Nat}(hi:i<n)(hh:(h:Int)<H.getD i 0):
  A9 Is many (H,(n:Int),d2,d3,d4,(i:Int),d6,(h:Int),(1:Int),())=some (.inl (H,(n:Int),d2,d3,d4,(i:Int),d6,(h:Int),(kst H n i h:Int),())):=by
 obtain⟨k1,k2,k3,k4⟩:=X8 ho.pos hi hh;have ht:=ho.top;have hp:=ho.pos
 have:=AVL (step:=Is) (fun k=>(H,(n:Int),d2,d3,d4,(i:Int),d6,(h:Int),((k+1:Nat):Int),())) (kst H n i h-1) (.inl (H,(n:Int),d2,d3,d4,(i:Int),d6,(h:Int),(kst H n i h:Int),())) (by omega)
  (fun k hk=>by
   unfold Is
   dsimp only
   rw[wrap_add (by omega),HX hp]
   simp only[(ho.at (AZE (i+(k+1)) hp)).2.2]
   rw[BZ,AXb (k4 (k+1) (by omega) (by omega)),A' (by omega)])
  (by
   rw[show kst H n i h-1+1=kst H n i h by omega]
   unfold Is
   dsimp only
   rw[wrap_add (by omega),HX hp]
   simp only[(ho.at (AZE (i+kst H n i h) hp)).2.2]
   rw[BZ,AXZ (by omega)])
 exact this
theorem AQi{H:List Int}{n:Nat}(ho:HO H n)(d2 d3:List Int)(d4:List (List Int)){i:Nat}(hi:i<n):
  A9 GX many (H,(n:Int),d2,d3,d4,(i:Int),([]:List Int),(0:Int),())=some (.inl (H,(n:Int),d2,d3,d4,(i:Int),nxL H n i,())):=by
 obtain⟨a1,a2,a3⟩:=ho.at hi;have ht:=ho.top;have hp:=ho.pos;obtain⟨m,hm⟩:=AXr (show 0≤H.getD i 0 by omega)
 have e:=Ct (step:=GX) (fun h (a:List Int)=>(H,(n:Int),d2,d3,d4,(i:Int),a,(h:Int),())) (List.range m) (fun h a=>.inl (a++[(((i+kst H n i h) % n:Nat):Int)])) (fun a=>.inl (H,(n:Int),d2,d3,d4,(i:Int),a,())) (fun j a=>a.length≤j) (by rw[AX1];omega)
  (fun j x a hj hx ha=>by
   refine⟨fun m' h' => ?_,fun r h'=>(by cases h')⟩
   cases h'
   obtain⟨rfl,hjm⟩:=jS hx
   have hh:(x:Int)<H.getD i 0:=by omega
   obtain⟨k1,k2,_⟩:=X8 hp hi hh
   constructor
   ·unfold GX
    dsimp only
    simp only[a3]
    rw[BM,AXb hh]
    simp only[AQh ho d2 d3 d4 a hi hh]
    rw[wrap_add (by omega),HX hp]
    simp only
    rw[Bt (by simp only[A8,AYO];omega),A' (by omega)]
    rfl
   ·simp;omega)
  (fun a _=>by
   rw[AX1]
   unfold GX
   dsimp only
   simp only[a3]
   rw[BM,AXZ (by omega)]) [] (AXl _)
 have e':A9 GX many (H,(n:Int),d2,d3,d4,(i:Int),([]:List Int),(0:Int),())=_:=e;rw[e',B0 (fun(h:Nat) (a:List Int)=>a++[(((i+kst H n i h) % n:Nat):Int)])];have hf:∀ (xs:List Nat) (a:List Int),xs.foldl (fun a h=>a++[(((i+kst H n i h) % n:Nat):Int)]) a=a++xs.map fun h=>(((i+kst H n i h) % n:Nat):Int):=by
  intro xs;induction xs with
   |nil=>intro a;simp
   |cons x xs ih=>intro a;rw[AYI,ih];simp
 rw[hf];unfold nxL;rw[hm];rfl
theorem tr{toks H:List Int}{n:Nat}(hr:Rt toks)(hn:toks.length=n)(ho:HO H n):WN (toks,H,())=some (toks,H,NX H n,0,()):=by
 have ht:=ho.top;have hp:=ho.pos;have hl:=ho.len;have hd:I' (toks,())=some (true,()):=by rw[I_];simp[hr]
 rw[ZH,Sr,hd];simp only[AXh,A8,hn,hl,Be];rw[AXZ (by omega)];simp only[AXi,AXh]
 have e0:=AVL (step:=Iu) (fun k=>(toks,H,(n:Int),(k:Int),())) n (.inr (.inl (toks,H,(n:Int),()))) (by omega)
  (fun k hk=>by
   obtain⟨a1,a2,a3⟩:=ho.at hk
   unfold Iu
   dsimp only
   rw[A_,AXb hk]
   simp only[a3,BM]
   rw[AXZ (by omega),AXZ (by omega),A' (by omega)])
  (by unfold Iu;dsimp only;rw[A_,AXZ (by omega)])
 have e0':A9 Iu many (toks,H,(n:Int),(0:Int),())=_:=e0;simp only[e0',AXs,hn,hl];rw[Bt (by omega)];simp only[];have d1:BT ([]:List Int) toks=toks:=by simp[BT]
 have d2:BT ([]:List Int) H=H:=by simp[BT]
 simp only[d1,d2]
 have e:=Ct (step:=It) (fun i (a:List (List Int))=>(H,(n:Int),toks,H,a,(i:Int),())) (List.range n) (fun i a=>.inl (a++[nxL H n i])) (fun a=>.inl (toks,H,a,())) (fun j a=>a.length≤j) (by rw[AX1];omega)
  (fun j x a hj hx ha=>by
   refine⟨fun m' h' => ?_,fun r h'=>(by cases h')⟩
   cases h'
   obtain⟨rfl,hjm⟩:=jS hx
   constructor
   ·unfold It
    dsimp only
    rw[A_,AXb hjm]
    simp only[AQi ho toks H a hjm]
    rw[Bt (by simp only[A8,AYO];omega),A' (by omega)]
    rfl
   ·simp;omega)
  (fun a _=>by
   rw[AX1]
   unfold It
   dsimp only
   rw[A_,AXZ (by omega)]) [] (AXl _)
 have e':A9 It many (H,(n:Int),toks,H,([]:List (List Int)),(0:Int),())=_:=e;simp only[e'];rw[B0 (fun(i:Nat) (a:List (List Int))=>a++[nxL H n i])];have hf:∀ (xs:List Nat) (a:List (List Int)),xs.foldl (fun a i=>a++[nxL H n i]) a=a++xs.map (nxL H n):=by
  intro xs;induction xs with
   |nil=>intro a;simp
   |cons x xs ih=>intro a;rw[AYI,ih];simp
 rw[hf];rfl
end Go.Pev.Pl
end
section
namespace Go.Pev.Pl
def psn(n k:Nat):Nat:=n-1-k % n
theorem py{n k j:Nat}(hn:0<n)(hj:j≤k)(hjn:j≤n):psn n (k-j)=(psn n k+j) % n:=by
 unfold psn;have hm:k % n<n:=AZE _ hn;obtain⟨q,hq⟩:∃ q,k=n*q+k % n:=⟨k/n,(Nat.div_add_mod k n).symm⟩
 generalize k % n=r at *;by_cases h:j≤r;have e:(k-j) % n=r-j:=by rw[hq,show n*q+r-j=r-j+n*q by omega,Nat.add_mul_mod_self_left,AYW (by omega)]
 rw[e,AYW (by omega)];omega;have hq1:1≤q:=by
  apply AYV;intro hh;have:q=0:=by omega
  subst this;rw[Nat.mul_zero]at hq;omega
 obtain⟨p,rfl⟩:∃ p,q=p+1:=⟨q-1,by omega⟩
 have e:(k-j) % n=n+r-j:=by rw[hq,Nat.mul_add,AZ0,show n*p+n+r-j=n+r-j+n*p by omega,Nat.add_mul_mod_self_left];by_cases h2:n+r-j=n;omega;exact AYW (by omega)
 rw[e];by_cases h3:j=n;subst h3;rw[Nat.add_mod_right,AYW (by omega)];omega;rw[show n-1-r+j=n+(j-r-1) by omega,Nat.add_mod_left,AYW (by omega)];omega
theorem ANK{n k:Nat}(hn:0<n):psn n k<n:=by unfold psn;omega
def AHU(B:List Int)(i:Nat)(m:Nat):List Int:=(List.range m).foldl (fun B h=>B.set h (i:Int)) B
theorem c7(B:List Int)(i m:Nat)(hm:m≤B.length):(AHU B i m).length=B.length∧∀ h,(AHU B i m).getD h 0=if h<m then(i:Int)else B.getD h 0:=by
 have:=foldI (fun h (B:List Int)=>B.set h (i:Int)) (fun k C=>C.length=B.length∧∀ h,C.getD h 0=if h<k then(i:Int)else B.getD h 0) m B (fun k C hk hC=>by obtain⟨c1,c2⟩:=hC;refine⟨by rw[AZN];exact c1,fun h => ?_⟩;rw[AXe,List.getElem?_set];by_cases e:k=h;subst e;rw[AXp rfl,AXp (by omega),AXp (by omega)];rfl;rw[AXo e,← AXe,c2];by_cases h2:h<k;rw[AXp h2,AXp (by omega)];rw[AXo h2,AXo (by omega)]) ⟨rfl,fun h=>by simp⟩
 exact this
theorem AUa(H:List Int)(n:Int)(T T2:List Int)(M:List (List Int))(B:List Int)(hB:B.length=8)(i:Nat)(d7 d8:Int)(m:Nat)(hm:m≤8):
  A9 E1 many (H,n,T,T2,M,B,(i:Int),d7,d8,(m:Int),(0:Int),())=some (.inl (H,n,T,T2,M,AHU B i m,d7,d8,())):=by
 have e:=Ct (step:=E1) (fun h (B:List Int)=>(H,n,T,T2,M,B,(i:Int),d7,d8,(m:Int),(h:Int),())) (List.range m) (fun h B=>.inl (B.set h (i:Int))) (fun B=>.inl (H,n,T,T2,M,B,d7,d8,())) (fun j B=>B.length=8) (by rw[AX1];omega)
  (fun j x B hj hx hB=>by
   refine⟨fun m' h' => ?_,fun r h'=>(by cases h')⟩
   cases h'
   obtain⟨rfl,hjm⟩:=jS hx
   constructor
   ·unfold E1
    dsimp only
    rw[A_,AXb hjm,BZ,AXb (by omega),BM,AXb (by omega),A8,hB,BM,AXb (by omega),ko,A' (by omega)]
    rfl
   ·rw[AZN];exact hB)
  (fun B _=>by
   rw[AX1]
   unfold E1
   dsimp only
   rw[A_,AXZ (by omega)]) B hB
 have e':A9 E1 many (H,n,T,T2,M,B,(i:Int),d7,d8,(m:Int),(0:Int),())=_:=e;rw[e',B0 (fun(h:Nat) (B:List Int)=>B.set h (i:Int))];rfl
abbrev TS:=List (List Int)×List Int
def hAt(H:List Int)(i:Nat):Nat:=(H.getD i 0).toNat
def twF(H:List Int)(n k:Nat)(a:TS):TS:=(if n≤k then a.1.set (psn n k) (a.2.take (hAt H (psn n k)))else a.1,AHU a.2 (psn n k) (hAt H (psn n k)))
structure TI2(H:List Int)(n k:Nat)(a:TS):Prop where
 lenM:a.1.length=n
 lenB:a.2.length=8
 near:∀ h j,1≤j→j≤k→h<hAt H (psn n (k-j))→(∀ j',1≤j'→j'<j→hAt H (psn n (k-j'))≤h)→a.2.getD h 0=((psn n (k-j):Nat):Int)
 rows:∀ k',n≤k'→k'<k→a.1.getD (psn n k') []=nxL H n (psn n k')
theorem HO.hAt{H:List Int}{n:Nat}(ho:HO H n){i:Nat}(hi:i<n):1≤hAt H i∧hAt H i≤8∧H.getD i 0=(hAt H i:Int):=by obtain⟨a1,a2,_⟩:=ho.at hi;unfold Go.Pev.Pl.hAt;omega
theorem TI2.step{H:List Int}{n k:Nat}(ho:HO H n)(hk:k<2*n){a:TS}(h:TI2 H n k a):TI2 H n (k+1) (twF H n k a):=by
 have hp:=ho.pos;have hi:=ANK (k:=k) hp;obtain⟨q1,q2,q3⟩:=ho.hAt hi;have hlB:=h.lenB;obtain⟨s1,s2⟩:=c7 a.2 (psn n k) (hAt H (psn n k)) (by omega);refine⟨?_,?_,?_,?_⟩;unfold twF;simp only;split;rw[AZN];exact h.lenM;exact h.lenM;show(AHU a.2 _ _).length=8;rw[s1];exact h.lenB;intro x j j1 j2 hx hall;show(AHU a.2 (psn n k) (hAt H (psn n k))).getD x 0=_;rw[s2];by_cases hj:j=1;subst hj;rw[AZp]at hx ⊢;rw[AXp hx];have h1:=hall 1 (by omega) (by omega);rw[AZp]at h1;rw[AXo (by omega)];have e:∀ z,1≤z→k+1-z=k-(z-1):=fun z hz=>by omega
 rw[e j j1]at hx ⊢;refine h.near x (j-1) (by omega) (by omega) hx fun j' p1 p2 => ?_;have:=hall (j'+1) (by omega) (by omega);rw[e (j'+1) (by omega),AZp]at this;exact this;intro k' h1 h2;by_cases e:k'=k;subst e;unfold twF;simp only;rw[AXp h1,AXe,List.getElem?_set,AXp rfl,AXp (by rw[h.lenM];exact hi)];simp only[AX5];apply AZT;intro x;unfold nxL;rw[AZk,AZS];by_cases hx:x<hAt H (psn n k');rw[AXp hx];have hxl:(List.range (H.getD (psn n k') 0).toNat)[x]? = some x:=by rw[List.getElem?_range];exact hx
 rw[hxl];have hxB:a.2[x]? = some (a.2.getD x 0):=by rw[AXe,AXj (by omega)];rfl
 rw[hxB];obtain⟨k1,k2,k3,k4⟩:=X8 (H:=H) (h:=x) hp hi (by omega);simp only[AY5];generalize kst H n (psn n k') x=d at *;have hb:=py (k:=k') (j:=d) hp (by omega) k2;have:=h.near x d k1 (by omega) (by
  rw[hb];have:=(ho.hAt (AZE (psn n k'+d) hp)).2.2;omega) fun j' p1 p2=>by
  rw[py (k:=k') (j:=j') hp (by omega) (by omega)];have:=k4 j' p1 p2;have:=(ho.hAt (AZE (psn n k'+j') hp)).2.2;omega
 rw[this,hb];rw[AXo hx];have hxl:(List.range (H.getD (psn n k') 0).toNat)[x]? = none:=by rw[List.getElem?_eq_none];rw[AX1];unfold Go.Pev.Pl.hAt at hx;omega
 rw[hxl];rfl;have hne:psn n k≠psn n k':=by
  unfold psn;have e1:k % n=k-n:=by rw[AaA (by omega),AYW (by omega)]
  have e2:k' % n=k'-n:=by rw[AaA (by omega),AYW (by omega)]
  omega
 unfold twF;simp only;rw[AXp (by omega),AXe,AYo hne,← AXe];exact h.rows k' h1 (by omega)
theorem ARz{H:List Int}{n:Nat}(ho:HO H n):((List.range (2*n)).foldl (fun a k=>twF H n k a) (List.replicate n [],List.replicate 8 0)).1=NX H n:=by
 have hp:=ho.pos;have hT:=foldI (twF H n) (TI2 H n) (2*n) (List.replicate n [],List.replicate 8 0) (fun k a hk h=>h.step ho hk) ⟨by simp,by simp,fun h j j1 j2=>by omega,fun k' h1 h2=>by omega⟩;generalize (List.range (2*n)).foldl (fun a k=>twF H n k a) (List.replicate n [],List.replicate 8 0)=a at *;have hlen:=hT.lenM;refine Hc ([]:List Int) ?_ fun i hi => ?_;unfold NX;rw[AYU,AX1];exact hlen;have hi':i<n:=by omega
 have:=hT.rows (2*n-1-i) (by omega) (by omega);have e:psn n (2*n-1-i)=i:=by unfold psn;rw[AaA (by omega),AYW (by omega)];omega
 rw[e]at this;rw[this];unfold NX;rw[AXe,AZS,List.getElem?_range hi'];rfl
theorem APD(x:Int):iR (x,())=some (decide (1≤x∧x≤8),()):=by rw[cK,Wb,BZ,BZ];by_cases h1:1≤x;by_cases h2:x≤8<;>simp[h1,h2];simp[h1]
theorem VO{H:List Int}{n:Nat}(ho:HO H n):Hd (H,())=some (false,()):=by
 have hl:=ho.len;have ht:=ho.top
 have e:=AVL (step:=EI) (fun k=>(H,(n:Int),(k:Int),())) n (.inr (.inl ())) (by omega)
  (fun k hk=>by
   obtain⟨a1,a2,a3⟩:=ho.at hk
   unfold EI
   dsimp only
   rw[A_,AXb hk]
   simp only[a3,APD]
   rw[AXb (show 1≤H.getD k 0∧H.getD k 0≤8 from⟨a1,a2⟩),A' (by omega)]
   rfl)
  (by unfold EI;dsimp only;rw[A_,AXZ (by omega)])
 rw[LZ,Ip,MN,Jj,A8,hl];have e':A9 EI many (H,(n:Int),(0:Int),())=_:=e;simp only[e',BZ];rfl
theorem n6{toks H:List Int}{n:Nat}(hr:Rt toks)(hn:toks.length=n)(ho:HO H n):Vs (toks,H,())=some (toks,H,NX H n,0,()):=by
 have ht:=ho.top;have hp:=ho.pos;have hl:=ho.len;have hd:L4 (toks,())=some (true,()):=by rw[Km];simp[hr]
 rw[Wc,Rd];simp only[A8,hn,hl,Be];rw[AXZ (by omega)];simp only[AXi,AXh,hd,VO ho,PC (show toks.length≤4294967296 by omega),PC (show H.length≤4294967296 by omega)];have hfi:CZ (n:Int)=true:=(Hz _).2 (by omega);rw[hfi,Ex,AXb (AXl n),Mj,AP6,AP6,b8 (by omega)];simp only[AYb]
 have e:=Ct (step:=H9) (fun k (a:TS)=>(H,(n:Int),toks,H,a.1,a.2,((2*n:Nat):Int),(k:Int),())) (List.range (2*n)) (fun k a=>.inl (twF H n k a)) (fun a=>.inl (toks,H,a.1,())) (fun k a=>a.1.length=n∧a.2.length=8) (by rw[AX1];omega)
  (fun k x a hk hx ha=>by
   refine⟨fun m' h' => ?_,fun r h'=>(by cases h')⟩
   cases h'
   obtain⟨rfl,hkm⟩:=jS hx
   obtain⟨la,lb⟩:=ha
   have hi:=ANK (k:=x) hp
   obtain⟨q1,q2,q3⟩:=ho.hAt hi
   have hi3:=(ho.at hi).2.2
   constructor
   ·unfold H9
    dsimp only
    rw[A_,AXb hkm,HX hp]
    have hm:x % n<n:=AZE _ hp
    have hw:w64 ((w64 ((n:Int)-(1:Int)))-((x % n:Nat):Int))=((psn n x:Nat):Int):=by
     rw[Bu (by omega),EC (by omega)]
     rfl
    simp only[hw,hi3,q3]
    rw[Ex]
    by_cases hnk:n≤x
    ·rw[AXb hnk]
     have hsub:=OL (xs:=a.2) (h:=hAt H (psn n x)) (by omega)
     have hlen2:(a.2.take (hAt H (psn n x))).length=hAt H (psn n x):=by rw[AYX];omega
     have hix:∃ z,idx a.1 ((psn n x:Nat):Int)=some z:=AWC (by omega)
     obtain⟨z,hz⟩:=hix
     simp only[hsub,A8,hlen2,Mj,E',AZI,PC (show(a.2.take (hAt H (psn n x))).length≤4294967296 by omega),hz,ko]
     rw[AUa H (n:Int) toks H _ a.2 lb (psn n x) _ _ _ q2]
     simp only
     rw[A' (by omega)]
     unfold twF
     rw[AXp hnk]
     rfl
    ·rw[AXZ hnk]
     simp only
     rw[AUa H (n:Int) toks H _ a.2 lb (psn n x) _ _ _ q2]
     simp only
     rw[A' (by omega)]
     unfold twF
     rw[AXo hnk]
   ·obtain⟨s1,_⟩:=c7 a.2 (psn n x) (hAt H (psn n x)) (by omega)
    refine⟨?_,s1.trans lb⟩
    unfold twF
    simp only
    split
    ·rw[AZN];exact la
    ·exact la)
  (fun a _=>by
   rw[AX1]
   unfold H9
   dsimp only
   rw[A_,AXZ (by omega)]) (List.replicate n [],List.replicate 8 0) ⟨by simp,by simp⟩
 have e':A9 H9 many (H,(n:Int),toks,H,List.replicate n ([]:List Int),List.replicate 8 (0:Int),((2*n:Nat):Int),(0:Int),())=_:=e;simp only[e'];rw[B0 (fun(k:Nat) (a:TS)=>twF H n k a),ARz ho]
end Go.Pev.Pl
end
section
namespace Go.Pev.Pl
theorem AWg(H:List Int)(n:Nat):(NX H n).length=n:=by unfold NX;simp
theorem AWf{H:List Int}{n:Nat}(ho:HO H n){x:List Int}(hx:x∈NX H n):x.length≤8:=by unfold NX at hx;obtain⟨i,hi,rfl⟩:=AYE.1 hx;rw[AYS]at hi;have:=ho.hAt hi;unfold nxL;rw[AYU,AX1];unfold hAt at this;omega
theorem pM{toks H:List Int}{n:Nat}(hn:toks.length=n)(ho:HO H n):jO ((toks,(H,(NX H n,()))),(toks,(H,(NX H n,()))),())=some (true,()):=by have ht:=ho.top;have hl:=ho.len;have h1:=Oq toks toks (by omega);have h2:=Oq H H (by omega);have h3:=Te (NX H n) (NX H n) (by rw[AWg];omega) (fun x hx=>by have:=AWf ho hx;omega);rw[AXb rfl]at h1 h2 h3;rw[dE,XG];simp only[h1,h2,h3]
structure WO(w:List Int)(n:Nat):Prop where
 len:w.length=n
 rng:∀ x∈w,0≤x∧x≤1
def pre(w:List Int):Nat→Int
 |0=>0
 |j+1=>pre w j+w.getD j 0
end Go.Pev.Pl
end
section
namespace Go.Pev.Pl
section
variable {toks H:List Int} {n:Nat} {bs:List Bool}
end
section
variable {N:Nat} {ts:List Tie} {v k:Int} {tks:List Int} {ofm:List (Int×Int)} {outm:RM} {s:List Int}
noncomputable def hL(s tks:List Int):List Int:=tks.map (htF s)
end
section
variable {n:Int} {ts:List Tie} {v k e:Int}
end
theorem AVF{s:List Int}(h:wfD (.slice (.int .u32)) s):U32 s:=by intro x hx;have:=h;simp only[wfD]at this;have:=this.2 x hx;exact this
end Go.Pev.Pl
end
section
namespace Go.Pev.Pl
theorem AHT(n:Int):ADS (n,())=some (decide (sh n),()):=by rw[og,jD,ALl,BR (by omega),Be];by_cases h:sh n;rw[AXb h,AXb (show n=n % 65536 by unfold sh at h;omega)];rw[AXZ h,AXZ (show ¬ n=n % 65536 by unfold sh at h;omega)]
theorem TF(n:Int):NQ (n,())=some (decide (sh n),()):=by rw[W6,Rk,BZ,BZ];unfold sh;by_cases h:0≤n;rw[AXb h];simp[h];rw[AXZ h];simp[h]
theorem Rc{n:Int}(h:sh n):cI (n,())=some (tw n,()):=by rw[nz,iP];simp only[AVe h,AVQ h,wrap_u8];obtain⟨h1,h2⟩:=h;rw[show n/256 % 256=n/256 by omega,show n % 256 % 256=n % 256 by omega];rfl
end Go.Pev.Pl
end
