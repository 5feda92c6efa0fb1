/- A part of the proofs of this seat: RKB RKC RKD PlnC RKE RKF RKG RKH RU24a RU24b RU24c RU24d RU23a RU23b RU24f RU24g RU24h RU24i RU24j RU24k RU24l RU24m RU24n PlnD RU21a RU21b RSIa RSIb RSIc RSId RSIe RSIf RU21c RU21d RU21e RU21f U21g U21h G21aP1 G21aP2 G21aP3 G21aP4 G21aP5. -/
import Derived.Test.YtaamkoofmojajaaPeaef94904c
import Derived.KernelRfl
import Derived.Test.YtaamkoofmojajaaProg
set_option linter.unusedVariables false
set_option linter.unusedSimpArgs false
set_option linter.unusedSectionVars false
set_option maxRecDepth 100000
section
section
namespace Go.Pev.Pl
open Tok
theorem I1{n u v:Int}(h:okT n (.arc u v)):okT n (.arc v u):=⟨h.2.1,h.1,AVW h.2.2⟩
end Go.Pev.Pl
end
section
namespace Go.Pev.Pl
open Tok
theorem AUN(n t:Int):TI n [t]↔In n t:=by
 constructor
 ·rintro⟨L,h1,h2,h3⟩
  rcases h3.leaf with⟨v,e⟩|⟨x,v,r,hr⟩
  ·subst e
   simp only[AVI,AWr,AVF,and_true]at h1
   rw[h1]
   exact h2 (.ver v) (by simp)
  ·have h4:=hr.length
   have h5:=AWa List.length h1
   simp only[AU0,AVU,AWS]at h4 h5
   omega
 ·intro h
  exact⟨[.ver t],rfl,fun x hx=>by simp at hx;subst hx;exact h,T.one t⟩
theorem AUO(n:Int):¬ TI n []:=by
 rintro⟨L,h1,h2,h3⟩
 have:=h3.facts.1
 cases L with
 |nil=>exact this rfl
 |cons t L=>cases h1
end Go.Pev.Pl
end
section
namespace Go.Pev.Pl
open Tok
def RG(n:Int)(xs:List Int):Prop:=Rt xs∧xs≠[]∧Gj xs=xs.headD 0∧TI n xs
def okR(n:Int):List Int→Int→List (List Int)→Prop
 |_,_,[]=>True
 |seen,last,l::ls=>RG n l∧last<l.headD 0∧(∀ t∈l,t<n→t∉seen)∧okR n (seen++l.filter (fun t=>decide (t<n))) (l.headD 0) ls
def RF(n:Int)(rings:List (List Int)):Prop:=Sz n∧okR n [] (-1) rings∧∀ v,0≤v→v<n→v∈rings.flatten
noncomputable instance (n:Int) (rings:List (List Int)):Decidable (RF n rings):=Classical.propDecidable _
noncomputable instance (n:Int) (xs:List Int):Decidable (RG n xs):=Classical.propDecidable _
def MI(n:Int)(met:List (Int×Int))(seen:List Int):Prop:=∀ t,t<n→(AL met t).getD (0:Int)=if t∈seen then 1 else 0
theorem Yf(n:Int)(l:List Int)(hl:l.length<1073741824)(d1:List (List Int))(d3:Int)(d4:List (List Int))(d5 d6:Int)(d7:List Int)(d8 d9:Int)(d10:Bool)(d11:List Int)(d12 d13:Bool)(d14:List Int)(d15:Int)(d16:List Int)(d17:Int)(d18:Bool)(d19:Int)(d20:List Int)(d21 d22:Bool):
  ∀ (m k cnt:Nat) (met:List (Int×Int)) (seen:List Int),k+m=l.length→MI n met seen→(l.drop k).Nodup→m<cnt →
  ((∀ t∈l.drop k,t<n→t∉seen)∧∃ met',AT C6 cnt (n,d1,met,d3,d4,d5,d6,d7,d8,d9,d10,d11,d12,d13,d14,d15,d16,d17,d18,d19,d20,d21,d22,l,(l.length:Int),(k:Int),()) =
    some (.inr (.inl (n,d1,met',d3,d4,d5,d6,d7,d8,d9,d10,d11,d12,d13,d14,d15,d16,d17,d18,d19,d20,d21,d22,())))∧MI n met' (seen++(l.drop k).filter (fun t=>decide (t<n)))) ∨
  (¬ (∀ t∈l.drop k,t<n→t∉seen)∧AT C6 cnt (n,d1,met,d3,d4,d5,d6,d7,d8,d9,d10,d11,d12,d13,d14,d15,d16,d17,d18,d19,d20,d21,d22,l,(l.length:Int),(k:Int),())=some (.inl (false,()))):=by
 intro m
 induction m with
 |zero=>
  intro k cnt met seen hk hm hn hc
  obtain⟨cnt,rfl⟩:∃ c,cnt=c+1:=⟨cnt-1,by omega⟩
  have e:l.drop k=[]:=AV3 (by omega)
  rw[e]
  refine .inl ⟨by simp,met,?_,by simpa using hm⟩
  rw[AT,C6,AR,AUp (by omega)]
 |succ m ih=>
  intro k cnt met seen hk hm hn hc
  obtain⟨cnt,rfl⟩:∃ c,cnt=c+1:=⟨cnt-1,by omega⟩
  have hk':k<l.length:=by omega
  have e:l.drop k=l.getD k 0::l.drop (k+1):=by
   rw[AVh hk',AUv,AUx hk',AVb]
  rw[AT,C6,AR,AUr hk']
  simp only[IU (0:Int) hk']
  rw[e]at hn ⊢
  generalize l.getD k 0=t at *
  rw[AVN]at hn
  rw[AK (by omega),An]
  by_cases ht:t<n
  ·rw[AUr ht]
   have hmt:=hm t ht
   simp only[hmt,An]
   by_cases hs:t∈seen
   ·rw[AU4 hs,AUr (by omega)]
    exact .inr ⟨fun h=>h t (by simp) ht hs,rfl⟩
   ·rw[AUy hs,AUp (by omega)]
    simp only[]
    have w1:IntKind.wrap .i64 ((0:Int)+1)=1:=by rw[Ah (by omega)];rfl
    rw[w1]
    have hm':MI n (Ab met t 1) (seen++[t]):=by
     intro y hy
     rw[Fb]
     by_cases e2:y=t
     ·simp[e2]
     ·simp only[e2,AU3,AUt,AVL,or_false];exact hm y hy
    have hiff:(∀ y∈t::l.drop (k+1),y<n→y∉seen)↔∀ y∈l.drop (k+1),y<n→y∉seen++[t]:=by
     constructor
     ·intro h y hy hyn hm2
      simp only[AUt,AVL]at hm2
      rcases hm2 with h2|rfl
      ·exact h y (AVE _ hy) hyn h2
      ·exact hn.1 hy
     ·intro h y hy hyn hm2
      rcases AUw.1 hy with rfl|hy
      ·exact hs hm2
      ·exact h y hy hyn (by simp[hm2])
    rcases ih (k+1) cnt _ _ (by omega) hm' hn.2 (by omega)with⟨q1,met',q2,q3⟩|⟨q1,q2⟩
    ·refine .inl ⟨hiff.2 q1,met',q2,?_⟩
     rw[List.filter_cons_of_pos (by simpa using ht)]
     simpa using q3
    ·exact .inr ⟨fun h=>q1 (hiff.1 h),q2⟩
  ·rw[AUp ht]
   simp only[]
   have hm':MI n (Ab met t (IntKind.wrap .i64 (((AL met t).getD (0:Int))+(1:Int)))) seen:=by
    intro y hy
    rw[Fb,AUy (by omega)]
    exact hm y hy
   have hiff:(∀ y∈t::l.drop (k+1),y<n→y∉seen)↔∀ y∈l.drop (k+1),y<n→y∉seen:=by
    constructor
    ·intro h y hy;exact h y (AVE _ hy)
    ·intro h y hy hyn
     rcases AUw.1 hy with rfl|hy
     ·exact absurd hyn ht
     ·exact h y hy hyn
   rcases ih (k+1) cnt _ _ (by omega) hm' hn.2 (by omega)with⟨q1,met',q2,q3⟩|⟨q1,q2⟩
   ·refine .inl ⟨hiff.2 q1,met',q2,?_⟩
    rw[List.filter_cons_of_neg (by simpa using ht)]
    exact q3
   ·exact .inr ⟨fun h=>q1 (hiff.1 h),q2⟩
theorem Rm(n:Int)(rings:List (List Int))(hlen:rings.length<1073741824)(hr:∀ l∈rings,l.length<9223372036854775808∧∀ x∈l, -9223372036854775808≤x∧x≤9223372036854775807):
  ∀ (ls:List (List Int)) (i cnt:Nat) (met:List (Int×Int)) (last:Int) (seen:List Int),rings.drop i=ls→i≤rings.length→MI n met seen→ls.length<cnt →
  (okR n seen last ls∧∃ met' seen',AT C7 cnt (n,rings,met,last,rings,(rings.length:Int),(i:Int),())=some (.inr (.inl (n,rings,met',())))∧MI n met' seen'∧∀ v,v∈seen'↔v∈seen∨(v<n∧v∈ls.flatten)) ∨
  (¬ okR n seen last ls∧AT C7 cnt (n,rings,met,last,rings,(rings.length:Int),(i:Int),())=some (.inl (false,()))):=by
 have hmany:4294967296<many:=by simp only[many];omega
 intro ls
 induction ls with
 |nil=>
  intro i cnt met last seen hd hi hm hc
  obtain⟨cnt,rfl⟩:∃ c,cnt=c+1:=⟨cnt-1,by simp at hc;omega⟩
  have:rings.length≤i:=by simpa using hd
  refine .inl ⟨trivial,met,seen,?_,hm,by simp⟩
  rw[AT,C7,AR,AUp (by omega)]
 |cons l ls ih=>
  intro i cnt met last seen hd hi hm hc
  simp only[AU0]at hc
  obtain⟨cnt,rfl⟩:∃ c,cnt=c+1:=⟨cnt-1,by omega⟩
  have hi':i<rings.length:=by
   refine AVn fun h => ?_
   rw[AV3 (by omega)]at hd
   cases hd
  rw[AVh hi']at hd
  simp only[AVF]at hd
  obtain⟨hd1,hd2⟩:=hd
  have hx:rings[i]? = some l:=by rw[AUx hi',hd1]
  have hmem:l∈rings:=AU9 hx
  obtain⟨hl,hlr⟩:=hr l hmem
  rw[AT,C7,AR,AUr hi',okR]
  simp only[Az hx,BS]
  cases l with
  |nil=>
   rw[AY,AUr (by simp)]
   exact .inr ⟨fun h=>h.1.2.1 rfl,rfl⟩
  |cons x tl=>
   rw[AY,AUp (by simp only[AU0];omega)]
   have i0:idx (x::tl) (0:Int)=some x:=by rw[MH];rfl
   simp only[i0,List.headD_cons,Aw]
   by_cases c1:x≤last
   ·rw[AUr c1]
    exact .inr ⟨fun h=>by omega,rfl⟩
   ·rw[AUp c1]
    simp only[KW]
    by_cases c2:Rt (x::tl)
    ·rw[AUr c2]
     have hl:(x::tl).length<1073741824:=by have:=c2.1;omega
     simp only[AU7,AET (x::tl) (by simp) (by omega)]
     by_cases c3:Gj (x::tl)=x
     ·rw[AUr c3]
      simp only[AU7]
      rw[AQu n (x::tl) (by simp) (by omega) hlr c2.2.2 (fun y hy=>by simp at hy;rw[← hy];exact c3)]
      by_cases c4:TI n (x::tl)
      ·rw[AUr c4]
       simp only[AU7,Ak]
       have hRG:RG n (x::tl):=⟨c2,by simp,c3,c4⟩
       rcases Yf n (x::tl) hl rings x rings (rings.length:Int) (i:Int) (x::tl) x last false (x::tl) true false (x::tl) (Gj (x::tl)) (x::tl) x false n (x::tl) true false (x::tl).length 0 many met seen (by omega) hm (by rw[AXL];exact c2.2.2) (by omega)with⟨q1,met',q2,q3⟩|⟨q1,q2⟩
       ·rw[AXL]at q1 q3
        have q2':AT C6 many (n,rings,met,x,rings,(rings.length:Int),(i:Int),x::tl,x,last,false,x::tl,true,false,x::tl,Gj (x::tl),x::tl,x,false,n,x::tl,true,false,x::tl,((x::tl).length:Int),(0:Int),())=_:=q2
        simp only[q2',AK (show i+1<9223372036854775808 by omega)]
        rcases ih (i+1) cnt met' x (seen++(x::tl).filter (fun t=>decide (t<n))) hd2 (by omega) q3 (by omega)with⟨p1,met2,seen2,p2,p3,p4⟩|⟨p1,p2⟩
        ·refine .inl ⟨⟨hRG,by omega,q1,p1⟩,met2,seen2,p2,p3,fun v => ?_⟩
         rw[p4,AUt,AVf,AW2,AUt]
         simp only[AUs]
         constructor
         ·rintro ((h|h)|h)
          ·exact .inl h
          ·exact .inr ⟨h.2,.inl h.1⟩
          ·exact .inr ⟨h.1,.inr h.2⟩
         ·rintro (h|⟨h,h2|h2⟩)
          ·exact .inl (.inl h)
          ·exact .inl (.inr ⟨h2,h⟩)
          ·exact .inr ⟨h,h2⟩
        ·exact .inr ⟨fun h=>p1 h.2.2.2,p2⟩
       ·rw[AXL]at q1
        have q2':AT C6 many (n,rings,met,x,rings,(rings.length:Int),(i:Int),x::tl,x,last,false,x::tl,true,false,x::tl,Gj (x::tl),x::tl,x,false,n,x::tl,true,false,x::tl,((x::tl).length:Int),(0:Int),())=_:=q2
        simp only[q2']
        exact .inr ⟨fun h=>q1 h.2.2.1,by trivial⟩
      ·rw[AUp c4]
       exact .inr ⟨fun h=>c4 h.1.2.2.2,rfl⟩
     ·rw[AUp c3]
      exact .inr ⟨fun h=>c3 h.1.2.2.1,rfl⟩
    ·rw[AUp c2]
     exact .inr ⟨fun h=>c2 h.1.1,rfl⟩
theorem Rl(n:Int)(rings:List (List Int))(hlen:rings.length<1073741824)(hr:∀ l∈rings,l.length<9223372036854775808∧∀ x∈l, -9223372036854775808≤x∧x≤9223372036854775807):
  NV ((n,(rings,())),())=some (decide (RF n rings),()):=by
 have hmany:4294967296<many:=by simp only[many];omega
 rw[XD,LV]
 simp only[Hm]
 by_cases hS:Sz n
 ·rw[AUr hS]
  simp only[AU7,Ak,AY]
  rcases Rm n rings hlen hr rings 0 many [] (-1) [] (by simp) (by omega) (fun t _=>by simp[AL]) (by omega)with⟨p1,met,seen,p2,p3,p4⟩|⟨p1,p2⟩
  ·have p2':AT C7 many (n,rings,[], -1,rings,(rings.length:Int),(0:Int),())=_:=p2
   simp only[p2']
   obtain⟨s1,s2⟩:=hS
   obtain⟨N,rfl⟩:=AUz (show 0≤n by omega)
   have e:=AUW (step:=Dl) (fun i=>(met,(N:Int),(i:Int),())) N (fun i=>decide ((i:Int)∉seen)) (fun _=>.inl (false,())) (.inr (.inl ())) (by omega)
    (fun i hi=>by
     have:=p3 (i:Int) (by omega)
     rw[Dl,AR,AUr hi]
     simp only[this,BS]
     by_cases h:(i:Int)∈seen
     ·simp only[h,AVM,not_true]
      rw[AK (by omega)];simp
     ·simp[h])
    (by rw[Dl,AR,AUp (by omega)])
   rw[Ak]at e
   have hv:∀ v,v∈seen↔(v<(N:Int)∧v∈rings.flatten):=fun v=>by rw[p4];simp
   rcases e with⟨k,k1,k2,_,k4⟩|⟨k1,k4⟩
   ·have k4':AT Dl many (met,(N:Int),(0:Int),())=_:=k4
    rw[k4',AUp]
    rintro⟨_,_,h⟩
    simp only[AUs]at k2
    exact k2 ((hv _).2 ⟨by omega,h (k:Int) (by omega) (by omega)⟩)
   ·have k4':AT Dl many (met,(N:Int),(0:Int),())=_:=k4
    rw[k4',AUr]
    refine⟨⟨s1,s2⟩,p1,fun v v1 v2 => ?_⟩
    obtain⟨k,rfl⟩:=AUz v1
    have:=k1 k (by omega)
    simp only[AVk,AW1]at this
    exact((hv _).1 this).2
  ·have p2':AT C7 many (n,rings,[], -1,rings,(rings.length:Int),(0:Int),())=_:=p2
   simp only[p2']
   rw[AUp (fun h=>p1 h.2.1)]
 ·rw[AUp hS,AUp (fun h=>hS h.1)];rfl
end Go.Pev.Pl
end
section
namespace Go.Pev.Pl
open Tok
theorem AHI{xs:List Int}(hr:Rt xs)(h:xs≠[]):plain xs=xs↔Gj xs=xs.headD 0:=by
 obtain⟨a,b,h1,h2⟩:=Iq hr h
 constructor
 ·intro e
  rw[e]at h2
  rw[h2]
  have:Gj xs=Gj xs:=rfl
  conv=>lhs;rw[← h2]
  rfl
 ·intro e
  cases a with
  |nil=>rw[h2,AWG];exact h1.symm
  |cons y a=>
   exfalso
   have hn:=hr.2.2
   have hy:y=Gj xs:=by rw[e,h1];rfl
   rw[h1,AVG,AVN]at hn
   exact hn.1 (by rw[← hy];simp)
theorem Ms{n:Int}{l:List Int}(h:RG n l):In n (l.headD 0):=by
 obtain⟨h1,h2,h3,h4⟩:=h
 cases l with
 |nil=>exact absurd rfl h2
 |cons x l=>exact ALJ h4 h3
theorem ASP{n:Int}(hn:1≤n):∀ {ls:List (List Int)} {seen:List Int} {last:Int},okR n seen last ls→-1≤last→last<n→(ls.length:Int)≤n-1-last:=by
 intro ls
 induction ls with
 |nil=>intro seen last _ _ h;simp;omega
 |cons l ls ih=>
  intro seen last ⟨h1,h2,h3,h4⟩ hl hl2
  have hh:=(Ms h1).2.2
  have:=ih h4 (by omega) hh.2
  simp only[AU0]
  omega
end Go.Pev.Pl
end
section
namespace Go.Pev.Pl
open Tok
def hd(l:List Int):Int:=l.headD 0
def Dis(n:Int)(a b:List Int):Prop:=∀ t∈a,t<n→t∉b
structure FR(n:Int)(rings:List (List Int)):Prop where
 sz:Sz n
 rg:∀ l∈rings,RG n l
 up:rings.Pairwise (fun a b=>hd a<hd b)
 dis:rings.Pairwise (Dis n)
 cov:∀ v,In n v→∃ l∈rings,v∈l
theorem Dis.symm{n:Int}{a b:List Int}(h:Dis n a b):Dis n b a:=fun t ht hn ha=>h t ha hn ht
theorem AKc{n:Int}:∀ {ls:List (List Int)} {seen:List Int} {last:Int},okR n seen last ls↔(∀ l∈ls,RG n l∧last<hd l∧∀ t∈l,t<n→t∉seen)∧ls.Pairwise (fun a b=>hd a<hd b)∧ls.Pairwise (Dis n):=by
 intro ls
 induction ls with
 |nil=>intro seen last;simp[okR]
 |cons l ls ih=>
  intro seen last
  rw[okR,ih,AVd,AVd]
  constructor
  ·rintro⟨h1,h2,h3,h4,h5,h6⟩
   refine⟨fun k hk => ?_,⟨fun k hk=>(h4 k hk).2.1,h5⟩,⟨fun k hk t ht htn htk => ?_,h6⟩⟩
   ·rcases AUw.1 hk with rfl|hk
    ·exact⟨h1,h2,h3⟩
    ·obtain⟨q1,q2,q3⟩:=h4 k hk
     exact⟨q1,Int.lt_trans h2 q2,fun t ht htn hts=>q3 t ht htn (by simp[hts])⟩
   ·exact(h4 k hk).2.2 t htk htn (by simp[ht,htn])
  ·rintro⟨h1,⟨h2,h3⟩,⟨h4,h5⟩⟩
   obtain⟨q1,q2,q3⟩:=h1 l (by simp)
   refine⟨q1,q2,q3,fun k hk => ?_,h3,h5⟩
   obtain⟨p1,p2,p3⟩:=h1 k (by simp[hk])
   refine⟨p1,h2 k hk,fun t ht htn hts => ?_⟩
   simp only[AUt,AVf]at hts
   rcases hts with h|h
   ·exact p3 t ht htn h
   ·exact h4 k hk t h.1 htn ht
theorem ABs{n:Int}{rings:List (List Int)}:RF n rings↔FR n rings:=by
 constructor
 ·rintro⟨h1,h2,h3⟩
  obtain⟨q1,q2,q3⟩:=AKc.1 h2
  refine⟨h1,fun l hl=>(q1 l hl).1,q2,q3,fun v hv => ?_⟩
  obtain⟨l,hl,h⟩:=List.mem_flatten.1 (h3 v hv.2.2.1 hv.2.2.2)
  exact⟨l,hl,h⟩
 ·rintro⟨h1,h2,h3,h4,h5⟩
  refine⟨h1,AKc.2 ⟨fun l hl=>⟨h2 l hl,?_,by simp⟩,h3,h4⟩,fun v v1 v2 => ?_⟩
  ·have:=(Ms (h2 l hl)).2.2.1
   show(-1:Int)<l.headD 0
   omega
  ·obtain⟨l,hl,h⟩:=h5 v ⟨h1.1,h1.2,v1,v2⟩
   exact List.mem_flatten.2 ⟨l,hl,h⟩
theorem ACe{ys zs:List (List Int)}(hz:zs.Pairwise (fun a b=>hd a<hd b))(hp:ys.Perm zs)(hy:ys.Pairwise (fun a b=>¬ hd b<hd a)):ys=zs:=by
 have hinj:∀ a∈zs,∀ b∈zs,hd a=hd b→a=b:=by
  intro a ha b hb e
  refine AVn fun hne => ?_
  obtain⟨i,hi,rfl⟩:=AVm ha
  obtain⟨j,hj,rfl⟩:=AVm hb
  rw[AVa]at hz
  rcases AWl i j with h|h|h
  ·have:=hz i j hi hj h;omega
  ·subst h;exact hne rfl
  ·have:=hz j i hj hi h;omega
 refine List.Perm.eq_of_pairwise (le:=fun a b=>¬ hd b<hd a) ?_ hy ?_ hp
 ·intro a b ha hb h1 h2
  exact hinj a (hp.mem_iff.1 ha) b hb (by omega)
 ·exact hz.imp fun h=>by omega
def plc(rings:List (List Int))(v:Int):Int:=if rings.any (fun l=>decide (v∈l))then((rings.findIdx (fun l=>decide (v∈l)):Nat):Int)else -1
theorem Rq(n:Int)(rings:List (List Int))(v:Int)(hlen:rings.length<1073741824)(hr:∀ l∈rings,l.length<9223372036854775808):NW ((n,(rings,())),v,())=some (plc rings v,()):=by
 rw[XE,LW,Gv,DE]
 have e:=P2 (step:=BT) (fun i=>(v,rings,AQ rings,(i:Int),())) rings (fun l=>decide (v∈l)) (fun i=>.inl (v,(i:Int),())) (.inr (.inl (v,()))) (by omega)
  (fun i l hi hx=>by
   have hl:=hr l (AU9 hx)
   rw[BT,AY,AR,AUr hi]
   simp only[Az hx,HK l v (by omega)]
   rw[AK (by omega)]
   by_cases h:v∈l
   ·rw[AUr h];rfl
   ·rw[AUp h];rfl)
  (by rw[BT,AY,AR,AUp (by omega)])
 have e':AZ BT many (v,rings,AQ rings,(0:Int),())=_:=e
 simp only[e',plc]
 cases rings.any (fun l=>decide (v∈l))<;>rfl
theorem SU{rings:List (List Int)}{v:Int}(h:∃ l∈rings,v∈l):∃ k l,plc rings v=((k:Nat):Int)∧rings[k]? = some l∧v∈l∧k<rings.length:=by
 obtain⟨l,hl,hv⟩:=h
 have hany:rings.any (fun l=>decide (v∈l))=true:=AWC.2 ⟨l,hl,by simpa using hv⟩
 have hk:rings.findIdx (fun l=>decide (v∈l))<rings.length:=AWf.2 ⟨l,hl,by simpa using hv⟩
 refine⟨_,rings[rings.findIdx (fun l=>decide (v∈l))],by rw[plc,AU4 hany],by rw[AUx hk],?_,hk⟩
 have:=AXC (xs:=rings) (p:=fun l=>decide (v∈l)) (w:=hk)
 simpa using this
theorem FR.uniq{n:Int}{rings:List (List Int)}(h:FR n rings){i j:Nat}{a b:List Int}{v:Int}(hi:rings[i]? = some a)(hj:rings[j]? = some b)(hn:v<n)(ha:v∈a)(hb:v∈b):i=j:=by
 obtain⟨hi1,rfl⟩:=AVO.1 hi
 obtain⟨hj1,rfl⟩:=AVO.1 hj
 have hd:=AVa.1 h.dis
 rcases AWl i j with g|g|g
 ·exact absurd hb (hd i j hi1 hj1 g v ha hn)
 ·exact g
 ·exact absurd ha (hd j i hj1 hi1 g v hb hn)
theorem FR.APR{n:Int}{rings:List (List Int)}(h:FR n rings){k:Nat}{a:List Int}{v:Int}(hk:rings[k]? = some a)(hn:v<n)(ha:v∈a):plc rings v=(k:Int):=by
 obtain⟨j,l,e,hj,hv,_⟩:=SU ⟨a,AU9 hk,ha⟩
 rw[e,h.uniq hj hk hn hv ha]
theorem UM{α:Type}{l:List α}{i:Nat}{a:α}(h:l[i]? = some a):l.Perm (a::l.eraseIdx i):=by
 obtain⟨hi,rfl⟩:=AVO.1 h
 rw[List.eraseIdx_eq_take_drop_succ]
 conv=>lhs;rw[← AVx i l,AVh hi]
 exact List.perm_middle
theorem P6{α:Type}{l:List α}{i j:Nat}{a b:α}(hij:i<j)(hi:l[i]? = some a)(hj:l[j]? = some b):l.Perm (a::b::(l.eraseIdx j).eraseIdx i):=by
 have h1:=UM hj
 have h2:(l.eraseIdx j)[i]? = some a:=by rw[List.getElem?_eraseIdx_of_lt hij,hi]
 exact h1.trans (((UM h2).cons b).trans (List.Perm.swap a b _))
theorem AMX{n:Int}{t:Tok}(h:okT n t):0≤Eh n t∧Eh n t≤4160∧Eh n t<n*(n+1):=by
 cases t with
 |ver v=>
  obtain⟨h1,h2,h3,h4⟩:=h
  have:n*1≤n*(n+1):=Int.mul_le_mul_of_nonneg_left (by omega) (by omega)
  simp only[Eh];omega
 |arc u v=>
  obtain⟨h1,h2,_⟩:=h
  obtain⟨g1,g2,_⟩:=RM h1 h2
  have hb:=Hz (u:=n+1-1) h1.1 h1.2.1 (by have:=h1.1;omega) (by have:=h1.2.1;omega)
  have e:n*(n+1)=n*(n+1-1)+n:=by rw[show n+1-1=n by omega,Int.mul_add,Int.mul_one]
  have:=h1.1
  have:=h1.2.1
  simp only[Eh]
  omega
theorem ATx{n:Int}{t:Tok}(h:okT n t):Sz n:=by
 cases t with
 |ver v=>exact⟨h.1,h.2.1⟩
 |arc u v=>exact⟨h.1.1,h.1.2.1⟩
theorem KS:∀ {L:List Tok},L.Nodup→(Ic L).Nodup
 |[],_=>by simp[Ic]
 |.ver v::L,h=>by
  rw[AVN]at h
  rw[Ic,AVN]
  exact⟨fun hm=>h.1 (Lv.1 hm),KS h.2⟩
 |.arc _ _::L,h=>by
  rw[AVN]at h
  rw[Ic]
  exact KS h.2
theorem ATg{n:Int}{xs:List Int}(h:TI n xs):Rt xs:=by
 obtain⟨L,rfl,h2,h3⟩:=h
 have hn:=h3.nodup
 refine⟨?_,fun x hx => ?_,?_⟩
 ·obtain⟨v,r,hr⟩:=h3.AFh
  have hS:Sz n:=ATx (h2 (.ver v) ((hr.mem _).2 (by simp)))
  have hl:=h3.len
  have hv:=Ey (a:=Ic L) (b:=(List.range n.toNat).map (fun(k:Nat)=>(k:Int))) (KS hn) fun x hx=>by
   have:=h2 _ (Lv.1 hx)
   have h5:=this.2.2
   rw[AVD]
   exact⟨x.toNat,by rw[AWE];omega,by omega⟩
  have h6:=hS.2
  simp only[AWS,AVS]at hv ⊢
  omega
 ·obtain⟨t,ht,rfl⟩:=AVD.1 hx
  have:=AMX (h2 t ht)
  omega
 ·rw[List.Nodup,AV6]
  exact hn.imp_of_mem fun ha hb hne e=>hne (MX (h2 _ ha) (h2 _ hb) e)
def ABw(a b:List Int):Prop:=∃ x y,a=x++y∧b=y++x
theorem ABw.perm{a b:List Int}(h:ABw a b):a.Perm b:=by
 obtain⟨x,y,rfl,rfl⟩:=h
 exact AWh
theorem ABw.symm{a b:List Int}(h:ABw a b):ABw b a:=by obtain⟨x,y,h1,h2⟩:=h;exact⟨y,x,h2,h1⟩
theorem ARb{n:Int}{a b:List Int}(h:TI n a)(r:ABw a b):TI n b:=by
 obtain⟨L,h1,h2,h3⟩:=h
 obtain⟨x,y,rfl,rfl⟩:=r
 obtain⟨L1,L2,rfl,e1,e2⟩:=List.map_eq_append_iff.1 h1.symm
 refine⟨L2++L1,by rw[AWR,e1,e2],fun t ht=>h2 t ?_,T.rot L1 L2 h3⟩
 simp only[AUt]at ht ⊢
 exact ht.symm
theorem Cw{xs:List Int}{t:Int}(h:t∈xs):ABw xs (Bo xs t):=by
 obtain⟨a,b,e1,_,e3⟩:=SD h
 exact⟨a,t::b,e1,by rw[e3]⟩
theorem AMd{xs ys:List Int}(h:xs.Perm ys)(hne:xs≠[]):Gj ys=Gj xs:=by
 obtain⟨h1,h2⟩:=ET hne
 exact ASU (h.mem_iff.1 h1) fun x hx=>h2 x (h.mem_iff.2 hx)
theorem AHJ{xs:List Int}(hr:Rt xs)(hne:xs≠[]):ABw xs (plain xs):=by
 rw[plain,AU4 ⟨hr,hne⟩]
 exact Cw (ET hne).1
theorem ATf{n:Int}{xs:List Int}(h:TI n xs):xs≠[]:=by rintro rfl;exact AUO n h
theorem AF8{n:Int}{xs:List Int}(h:TI n xs):RG n (plain xs)∧ABw xs (plain xs):=by
 have hr:=ATg h
 have hne:=ATf h
 have h1:=AHJ hr hne
 have h2:=ARb h h1
 refine⟨⟨ATg h2,ATf h2,?_,h2⟩,h1⟩
 rw[AMd h1.perm hne]
 obtain⟨a,b,_,e⟩:=Iq hr hne
 rw[e];rfl
theorem RG.self{n:Int}{xs:List Int}(h:RG n xs):plain xs=xs:=(AHI h.1 h.2.1).2 h.2.2.1
theorem AF6{n:Int}{xs:List Int}(h:TI n xs){t:Tok}(ht:okT n t)(hx:Eh n t∈xs):∃ a,Bo xs (Eh n t)=(t::a).map (Eh n)∧T (t::a)∧(∀ y∈t::a,okT n y):=by
 have h1:=ARb h (Cw hx)
 obtain⟨a,b,e1,e2,e3⟩:=SD hx
 obtain⟨L,q1,q2,q3⟩:=h1
 rw[e3,AVG]at q1
 cases L with
 |nil=>cases q1
 |cons t' L=>
  simp only[AVI,AVF]at q1
  have:=MX ht (q2 t' (by simp)) q1.1
  subst this
  exact⟨L,by rw[e3,AVG,AVI,q1.2],q3,q2⟩
end Go.Pev.Pl
end
section
namespace Go.Pev.Pl
open Go.RowKit Tok
theorem AEw(a:Int):ieq a a=true:=by rw[EX];simp
def Dom(rings:List (List Int)):Prop:=rings.length<1073741824∧∀ l∈rings,l.length<9223372036854775808∧∀ x∈l, -9223372036854775808≤x∧x≤9223372036854775807
theorem FR.dom{n:Int}{rings:List (List Int)}(h:FR n rings):Dom rings:=by
 have h1:=ABs.2 h
 have h2:=ASP h.sz.1 h1.2.1 (by omega) (by have:=h.sz.1;omega)
 have h3:=h.sz.2
 refine⟨by omega,fun l hl => ?_⟩
 have:=(h.rg l hl).1
 exact⟨by have:=this.1;omega,fun x hx=>by have:=this.2.1 x hx;omega⟩
theorem AA1{l:List Int}(h:l≠[]):hd l∈l:=by
 cases l with
 |nil=>exact absurd rfl h
 |cons x l=>simp[hd]
end Go.Pev.Pl
end
section
namespace Go.Pev.Pl
open Tok
noncomputable def AUM(n:Int)(rings:List (List Int))(ok:Bool):Int:=if RF n rings then if ok then 0 else 10 else 1
theorem AJS(n:Int)(rings:List (List Int))(xs:List Int)(hs:xs.length<9223372036854775808):Cf (xs,n,rings,())=some (n,rings,xs.any (fun x=>decide (x<0)||decide (n≤x)),()):=by
 rw[GV,Cn,Gy,DF]
 have e:=P2 (step:=BU) (fun i=>(n,rings,xs,AQ xs,(i:Int),())) xs (fun x=>decide (x<0)||decide (n≤x)) (fun i=>.inl (n,rings,(i:Int),())) (.inr (.inl (n,rings,()))) hs
  (fun i x hi hx=>by
   rw[BU,AY,AR,AUr hi]
   simp only[Az hx,An,Aw]
   rw[AK (by omega)]
   by_cases h:x<0
   ·simp[h]
   ·by_cases h2:n≤x
    ·simp[h,h2]
    ·simp[h,h2])
  (by rw[BU,AY,AR,AUp (by omega)])
 have e':AZ BU many (n,rings,xs,AQ xs,(0:Int),())=_:=e
 rw[e']
 generalize (xs.any fun x=>decide (x<0)||decide (n≤x))=b
 cases b<;>simp[Aw]
theorem AUQ{n v:Int}(hS:Sz n):(decide (v<0)||decide (n≤v)) = !decide (In n v):=by
 by_cases h:In n v
 ·obtain⟨_,_,h3,h4⟩:=h
  simp[In,hS.1,hS.2,h3,h4]
 ·have:v<0∨n≤v:=by
   refine AVn fun hc=>h ⟨hS.1,hS.2,by omega,by omega⟩
  rcases this with g|g<;>simp[h,g]
theorem AI9(n:Int)(rings:List (List Int))(xs:List Int)(hD:Dom rings)(hs:xs.length<9223372036854775808):OZ ((n,(rings,())),xs,())=some (AUM n rings (xs.all fun v=>decide (In n v)),()):=by
 rw[Xx,MR]
 simp only[Rl n rings hD.1 hD.2,AJS n rings xs hs,AUM]
 by_cases h:RF n rings
 ·have hb:(xs.any fun x=>decide (x<0)||decide (n≤x)) = !(xs.all fun v=>decide (In n v)):=by
   rw[List.not_all_eq_any_not]
   congr 1
   funext x
   exact AUQ h.1
  simp only[h,AU2,AU7,hb,AVM]
  cases xs.all fun v=>decide (In n v)<;>rfl
 ·simp[h]
end Go.Pev.Pl
end
section
namespace Go.Pev.Pl.SG
open Go.Sort
structure SP(α:Type)where
 z:α
 c:α×α×Unit→Option (Int×Unit)
 ok:α→Prop
 okz:α
 TK:ok okz
 lt:α→α→Bool
 swo:SWO lt
 ABS:∀ {x y:α},ok x→ok y→∃ r,c (x,y,())=some (r,())∧ilt r (0:Int)=lt x y
variable {α:Type} {S:SP α}
abbrev EL{α:Type}(S:SP α):={x:α // S.ok x}
instance:Inhabited (EL S):=⟨⟨S.okz,S.TK⟩⟩
def rep(d:Array (EL S)):List α:=d.toList.map Subtype.val
theorem Aa{d:Array (EL S)}{n:Nat}(h:n<d.size):idx (rep d) (n:Int)=some (d[n]!).val:=by
 rw[idx_eq,OS,AUy (by omega)]
 simp[rep,h]
theorem Al{d:Array (EL S)}{n:Nat}{z:α}(h:n<d.size):AN (rep d) (AF (n:Int)) z=(d[n]!).val:=by
 simp[AN,AF,rep,h]
theorem CY{d:Array (EL S)}{n:Nat}{x:(EL S)}:Aj (rep d) (AF (n:Int)) x.val=rep (d.setIfInBounds n x):=by
 simp[Aj,AF,rep,List.map_set]
theorem ABK{d:Array (EL S)}:AQ (rep d)=(d.size:Int):=by simp[AQ,rep]
def ltX(x y:(EL S)):Bool:=S.lt x.val y.val
theorem AOv:SWO (ltX (S:=S)):=⟨fun x=>S.swo.irrefl x.val,fun x y z=>S.swo.trans x.val y.val z.val,fun x y z=>S.swo.ntrans x.val y.val z.val⟩
noncomputable def ATH(x y:(EL S)):Int:=match S.c (x.val,y.val,())with
 |some (c,_)=>c
 |none=>0
theorem B8(x y:(EL S)):S.c (x.val,y.val,())=some (ATH x y,()):=by
 obtain⟨c,e,_⟩:=S.ABS x.property y.property
 rw[ATH,e]
theorem Cm(x y:(EL S)):ilt (ATH x y) (0:Int)=ltX x y:=by
 obtain⟨c,e,h⟩:=S.ABS x.property y.property
 rw[ATH,e]
 exact h
theorem ASu(a b i:Nat):∀ (j:Nat) (d:Array (EL S)) (n:Nat),j<d.size→d.size<4611686018427387904→j<n →
  AT (MC S.z S.c) n ((rep d),(a:Int),(b:Int),(i:Int),(j:Int),())=some (.inl ((rep (insInner ltX a j d)),(a:Int),(b:Int),(i:Int),())):=by
 intro j
 induction j with
 |zero=>
  intro d n hj hs hn
  obtain⟨n,rfl⟩:∃ k,n=k+1:=⟨n-1,by omega⟩
  have h0:ilt (a:Int) ((0:Nat):Int)=false:=by rw[AR];simp
  simp only[AT,MC,h0,insInner]
 |succ j ih=>
  intro d n hj hs hn
  obtain⟨n,rfl⟩:∃ k,n=k+1:=⟨n-1,by omega⟩
  have e1:IntKind.wrap .i64 (((j+1:Nat):Int)-1)=(j:Int):=by rw[Ah (by omega)];omega
  have hj':j<d.size:=by omega
  simp only[AT,MC,AR,e1,Aa hj,Aa hj',Al hj,Al hj',B8,Cm,insInner,AWZ]
  by_cases h1:a<j+1
  ·cases h2:ltX d[j+1]! d[j]!
   ·simp only[h1,AU2,h2,Bool.and_false,AU5,AU3]
   ·simp only[h1,AU2,h2,Bool.and_true,AVM,CY]
    rw[Aa (by simpa using hj')]
    simp only[Ce]
    exact ih (swp d (j+1) j) n (by rw[size_swp];omega) (by rw[size_swp];omega) (by omega)
  ·simp only[h1,AVA,AWp,AU5,AU3]
theorem CE(lt:(EL S)→(EL S)→Bool)(a j:Nat)(d:Array (EL S)):(insInner lt a j d).size=d.size:=by
 induction j generalizing d with
 |zero=>rfl
 |succ j ih=>
  rw[insInner]
  split
  ·rw[ih,size_swp]
  ·rfl
theorem AQf(a b:Nat):∀ (k i:Nat) (d:Array (EL S)) (n:Nat),b-i=k→b≤d.size→d.size<4611686018427387904→d.size<many→k<n →
  AT (MD S.z S.c) n ((rep d),(a:Int),(b:Int),(i:Int),())=some (.inl ((rep (insOuter ltX a b i d)),())):=by
 intro k
 induction k with
 |zero=>
  intro i d n hk hb hs hm hn
  obtain⟨n,rfl⟩:∃ k,n=k+1:=⟨n-1,by omega⟩
  have h0:¬ i<b:=by omega
  rw[insOuter]
  simp only[AT,MD,AR,h0,AVA,AU3]
 |succ k ih=>
  intro i d n hk hb hs hm hn
  obtain⟨n,rfl⟩:∃ k,n=k+1:=⟨n-1,by omega⟩
  have h0:i<b:=by omega
  have e1:IntKind.wrap .i64 ((i:Int)+1)=((i+1:Nat):Int):=by rw[Ah (by omega)];omega
  rw[insOuter]
  simp only[AT,MD,AR,h0,AU2,AVM,Ak]
  rw[ASu a b i i d many (by omega) hs (by omega)]
  simp only[e1]
  exact ih (i+1) _ n (by omega) (by rw[CE];omega) (by rw[CE];omega) (by rw[CE];omega) (by omega)
theorem AQe(d:Array (EL S))(a b:Nat)(hab:a≤b)(hb:b≤d.size)(hs:d.size<4294967296):(ASw S.z S.c) ((rep d),(a:Int),(b:Int),())=some ((rep (insertionSort ltX d a b)),()):=by
 have hm:d.size<many:=by simp only[many];omega
 have e1:IntKind.wrap .i64 ((a:Int)+1)=((a+1:Nat):Int):=by rw[Ah (by omega)];omega
 rw[ASv,AAq]
 simp only[e1,Ak]
 rw[AQf a b (b-(a+1)) (a+1) d many rfl hb (by omega) hm (by omega)]
 rfl
end Go.Pev.Pl.SG
end
end
section
section
namespace Go.Pev.Pl.SG
open Go.Sort
variable {α:Type} {S:SP α}
theorem AGl(hi first:Nat):∀ (k root:Nat) (d:Array (EL S)) (n:Nat),hi-root=k→root≤hi→first+hi≤d.size→d.size<4294967296→(hi=0∨root<hi)→k<n →
  AT (Ii S.z S.c) n ((rep d),(hi:Int),(first:Int),(root:Int),())=some (.inl ((rep (siftDown ltX hi first root d)),())) ∨
  AT (Ii S.z S.c) n ((rep d),(hi:Int),(first:Int),(root:Int),())=some (.inr (.inl ((rep (siftDown ltX hi first root d)),()))):=by
 intro k
 induction k using Nat.strongRecOn with
 |_ k ih=>
 intro root d n hk hr hf hs hz hn
 obtain⟨n,rfl⟩:∃ k,n=k+1:=⟨n-1,by omega⟩
 rw[siftDown]
 simp (disch:=omega) only[AT,Ii,NS,AK,wrap_add,BR,AR]
 by_cases h1:hi≤2*root+1
 ·simp only[h1,AU2,ge_iff_le,dite_true,true_or]
 ·have i0:first+root<d.size:=by omega
  have i1:first+(2*root+1)<d.size:=by omega
  simp only[h1,AVA,ge_iff_le,AU3,dite_false]
  simp (disch:=omega) only[Aa,Al,B8,Cm]
  by_cases h2:2*root+1+1<hi
  ·have i2:first+(2*root+2)<d.size:=by omega
   have i3:2*root+1+1=2*root+2:=by omega
   have i4:first+(2*root+1)+1=first+(2*root+2):=by omega
   have h3:2*root+2<hi:=by omega
   simp only[i3,i4,h3,AU2]
   simp (disch:=omega) only[Aa,Al,B8,Cm,CY]
   cases h4:ltX d[first+(2*root+1)]! d[first+(2*root+2)]!
   ·simp only[Bool.and_false,AU5,AU3]
    cases h5:ltX d[first+root]! d[first+(2*root+1)]!
    ·simp
    ·simp only[AU7,AU5,AU3]
     rw[Aa (by simpa using i1)]
     simp only[Ce]
     exact ih (hi-(2*root+1)) (by omega) (2*root+1) _ n rfl (by omega) (by rw[size_swp];omega) (by rw[size_swp];omega) (by omega) (by omega)
   ·simp only[Bool.and_true,AVM]
    cases h5:ltX d[first+root]! d[first+(2*root+2)]!
    ·simp
    ·simp only[AU7,AU5,AU3,dite_true]
     rw[Aa (by simpa using i2)]
     simp only[Ce]
     exact ih (hi-(2*root+2)) (by omega) (2*root+2) _ n rfl (by omega) (by rw[size_swp];omega) (by rw[size_swp];omega) (by omega) (by omega)
  ·simp only[h2,AVA,AWp,AU5,AU3,CY]
   cases h5:ltX d[first+root]! d[first+(2*root+1)]!
   ·simp
   ·simp only[AU7,AU5,AU3]
    rw[Aa (by simpa using i1)]
    simp only[Ce]
    exact ih (hi-(2*root+1)) (by omega) (2*root+1) _ n rfl (by omega) (by rw[size_swp];omega) (by rw[size_swp];omega) (by omega) (by omega)
theorem XK(d:Array (EL S))(root hi first:Nat)(hf:first+hi≤d.size)(hs:d.size<4294967296)(hz:hi=0∧root=0∨root<hi):(ACs S.z S.c) ((rep d),(root:Int),(hi:Int),(first:Int),())=some ((rep (siftDown ltX hi first root d)),()):=by
 have hm:d.size<many:=by simp only[many];omega
 rw[AO6,Q1]
 simp only[Ak]
 rcases AGl hi first (hi-root) root d many rfl (by omega) hf hs (by omega) (by omega)with h|h<;>rw[h]
theorem BN(lt:(EL S)→(EL S)→Bool)(hi first:Nat):∀ (k root:Nat) (d:Array (EL S)),hi-root=k→(siftDown lt hi first root d).size=d.size:=by
 intro k
 induction k using Nat.strongRecOn with
 |_ k ih=>
 intro root d hk
 rw[siftDown]
 split
 ·rfl
 ·split
  ·split
   ·rfl
   ·split
    ·rw[ih (hi-(2*root+2)) (by omega) _ _ rfl,size_swp]
    ·rfl
  ·split
   ·rfl
   ·rw[ih (hi-(2*root+1)) (by omega) _ _ rfl,size_swp]
theorem AFE(hi first:Nat):∀ (k:Nat) (d:Array (EL S)) (n:Nat),(hi=0∧k≤1∨k≤hi)→first+hi≤d.size→d.size<4294967296→k<n →
  AT (JH S.z S.c) n ((rep d),(first:Int),(0:Int),(hi:Int),(k:Int)-1,())=some (.inl ((rep (heapBuild ltX hi first k d)),(first:Int),(0:Int),(hi:Int),())):=by
 intro k
 induction k with
 |zero=>
  intro d n hk hf hs hn
  obtain⟨n,rfl⟩:∃ k,n=k+1:=⟨n-1,by omega⟩
  rw[AT,JH,Aw,AUp (by omega)]
  rfl
 |succ k ih=>
  intro d n hk hf hs hn
  obtain⟨n,rfl⟩:∃ k,n=k+1:=⟨n-1,by omega⟩
  have e0:((k+1:Nat):Int)-1=(k:Int):=by omega
  rw[AT,JH,e0,Aw,AUr (by omega)]
  simp only[XK d k hi first hf hs (by omega)]
  rw[Ah (by omega)]
  exact ih _ n (by omega) (by rw[BN _ _ _ _ _ _ rfl];omega) (by rw[BN _ _ _ _ _ _ rfl];omega) (by omega)
theorem Cs(lt:(EL S)→(EL S)→Bool)(hi first:Nat):∀ (k:Nat) (d:Array (EL S)),(heapBuild lt hi first k d).size=d.size:=by
 intro k
 induction k with
 |zero=>intro d;rfl
 |succ k ih=>intro d;rw[heapBuild,ih,BN _ _ _ _ _ _ rfl]
theorem ANU(first:Nat):∀ (k:Nat) (d:Array (EL S)) (n:Nat),first+k≤d.size→d.size<4294967296→k<n →
  AT (JG S.z S.c) n ((rep d),(first:Int),(0:Int),(k:Int)-1,())=some (.inl ((rep (heapPop ltX first k d)),())):=by
 intro k
 induction k with
 |zero=>
  intro d n hf hs hn
  obtain⟨n,rfl⟩:∃ k,n=k+1:=⟨n-1,by omega⟩
  rw[AT,JG,Aw,AUp (by omega)]
  rfl
 |succ k ih=>
  intro d n hf hs hn
  obtain⟨n,rfl⟩:∃ k,n=k+1:=⟨n-1,by omega⟩
  have e0:((k+1:Nat):Int)-1=(k:Int):=by omega
  have i0:first<d.size:=by omega
  have i1:first+k<d.size:=by omega
  rw[AT,JG,e0,Aw,AUr (by omega)]
  simp (disch:=omega) only[wrap_add,Aa,Al,CY]
  rw[Aa (by simpa using i1)]
  simp only[Ce]
  have:=XK (swp d first (first+k)) 0 k first (by rw[size_swp];omega) (by rw[size_swp];omega) (by omega)
  simp only[Int.natCast_zero]at this
  simp only[this]
  rw[Ah (by omega)]
  exact ih _ n (by rw[BN _ _ _ _ _ _ rfl,size_swp];omega) (by rw[BN _ _ _ _ _ _ rfl,size_swp];omega) (by omega)
theorem ANT(d:Array (EL S))(a b:Nat)(hab:a<b)(hb:b≤d.size)(hs:d.size<4294967296):(AKx S.z S.c) ((rep d),(a:Int),(b:Int),())=some ((rep (heapSort ltX d a b)),()):=by
 have hm:4294967296<many:=by simp only[many];omega
 rw[AQs,RJ]
 simp (disch:=omega) only[BQ,Af,ATa,Ak]
 have e:(((b-a-1)/2:Nat):Int)=(((b-a-1)/2+1:Nat):Int)-1:=by omega
 rw[e,AFE (b-a) a _ d many (by omega) (by omega) hs (by omega)]
 have e2:(((b-a-1:Nat)):Int)=((b-a:Nat):Int)-1:=by omega
 simp (disch:=omega) only[Af,e2]
 rw[ANU a (b-a) _ many (by rw[Cs];omega) (by rw[Cs];omega) (by omega)]
 rfl
end Go.Pev.Pl.SG
end
section
namespace Go.Pev.Pl.SG
open Go.Sort
variable {α:Type} {S:SP α}
theorem AL5:∀ (k i j:Nat) (d:Array (EL S)) (n:Nat),j-i=k→(j<d.size)→d.size<4294967296→k<n →
  AT (Q4 S.z S.c) n ((rep d),(i:Int),(j:Int),())=some (.inl ((rep (reverseLoop i j d)),())):=by
 intro k
 induction k using Nat.strongRecOn with
 |_ k ih=>
 intro i j d n hk hj hs hn
 obtain⟨n,rfl⟩:∃ k,n=k+1:=⟨n-1,by omega⟩
 rw[reverseLoop,AT,Q4]
 simp only[AR]
 by_cases h:i<j
 ·have hi:i<d.size:=by omega
  simp only[h,AU2,AVM,Aa hj,Aa hi,Al hi,Al hj,CY]
  rw[Aa (by simpa using hj)]
  simp (disch:=omega) only[Ce,AK,Af]
  exact ih (j-1-(i+1)) (by omega) (i+1) (j-1) _ n rfl (by rw[size_swp];omega) (by rw[size_swp];omega) (by omega)
 ·simp only[h,AVA,AU3]
theorem APH(d:Array (EL S))(a b:Nat)(hab:a<b)(hb:b≤d.size)(hs:d.size<4294967296):(AR8 S.z S.c) ((rep d),(a:Int),(b:Int),())=some ((rep (reverseRange d a b)),()):=by
 have hm:4294967296<many:=by simp only[many];omega
 rw[AR7,ZN]
 simp (disch:=omega) only[Af,Ak]
 rw[AL5 (b-1-a) a (b-1) d many rfl (by omega) hs (by omega)]
 rfl
theorem DL{d:Array (EL S)}{i j:Nat}(hi:i<d.size)(hj:j<d.size):idx (Aj (rep d) (AF (i:Int)) (AN (rep d) (AF (j:Int)) S.z)) (j:Int)=some ((d.setIfInBounds i d[j]!)[j]!).val ∧
  Aj (Aj (rep d) (AF (i:Int)) (AN (rep d) (AF (j:Int)) S.z)) (AF (j:Int)) (AN (rep d) (AF (i:Int)) S.z)=(rep (swp d i j)):=by
 rw[Al hi,Al hj,CY,CY]
 exact⟨Aa (by simpa using hj),rfl⟩
theorem ZH(step:List α×Int×Int×Int×Unit→Option ((List α×Int×Int×Int×Unit)⊕(List α×Int×Int×Int×Unit)⊕Unit))(p:(EL S)→Bool)(d:Array (EL S))(a j:Nat)(hs:d.size<4294967296)(hj:j<d.size)
  (h:∀ i:Nat,i≤d.size→step ((rep d),(a:Int),(i:Int),(j:Int),())=if i≤j∧p d[i]! then some (.inl ((rep d),(a:Int),((i+1:Nat):Int),(j:Int),()))else some (.inr (.inl ((rep d),(a:Int),(i:Int),(j:Int),())))) :
  ∀ (k i n:Nat),j+1-i=k→i≤d.size→k<n→AT step n ((rep d),(a:Int),(i:Int),(j:Int),())=some (.inl ((rep d),(a:Int),((scanUp p d j i:Nat):Int),(j:Int),())):=by
 intro k
 induction k using Nat.strongRecOn with
 |_ k ih=>
 intro i n hk hi hn
 obtain⟨n,rfl⟩:∃ k,n=k+1:=⟨n-1,by omega⟩
 rw[scanUp,AT,h i hi]
 by_cases h1:i≤j∧p d[i]! = true
 ·rw[AU4 h1,AU4 (by simpa using h1)]
  exact ih (j+1-(i+1)) (by omega) (i+1) n rfl (by omega) (by omega)
 ·rw[AUy h1,AUy (by simpa using h1)]
theorem Na(step:List α×Int×Int×Int×Unit→Option ((List α×Int×Int×Int×Unit)⊕(List α×Int×Int×Int×Unit)⊕Unit))(p:(EL S)→Bool)(d:Array (EL S))(a i:Nat)(hi:1≤i)
  (h:∀ j:Nat,j<d.size→step ((rep d),(a:Int),(i:Int),(j:Int),())=if i≤j∧p d[j]! then some (.inl ((rep d),(a:Int),(i:Int),((j-1:Nat):Int),()))else some (.inr (.inl ((rep d),(a:Int),(i:Int),(j:Int),())))) :
  ∀ (j n:Nat),j<d.size→j<n→AT step n ((rep d),(a:Int),(i:Int),(j:Int),())=some (.inl ((rep d),(a:Int),(i:Int),((scanDown p d i j:Nat):Int),())):=by
 intro j
 induction j with
 |zero=>
  intro n hj hn
  obtain⟨n,rfl⟩:∃ k,n=k+1:=⟨n-1,by omega⟩
  rw[AT,h 0 hj,AUy (by omega)]
  rfl
 |succ j ih=>
  intro n hj hn
  obtain⟨n,rfl⟩:∃ k,n=k+1:=⟨n-1,by omega⟩
  rw[scanDown,AT,h (j+1) hj]
  by_cases h1:i≤j+1∧p d[j+1]! = true
  ·rw[AU4 h1,AU4 (by simpa using h1)]
   exact ih n (by omega) (by omega)
  ·rw[AUy h1,AUy (by simpa using h1)]
section
variable (d:Array (EL S)) (a i j:Nat) (hs:d.size<4294967296) (ha:a<d.size) (hj:j<d.size)
include hs ha hj
theorem AEI(hi:i≤d.size):(Lq S.z S.c) ((rep d),(a:Int),(i:Int),(j:Int),())=if i≤j∧(fun x=>ltX x d[a]!) d[i]! = true then some (.inl ((rep d),(a:Int),((i+1:Nat):Int),(j:Int),()))else some (.inr (.inl ((rep d),(a:Int),(i:Int),(j:Int),()))):=by
 rw[Lq]
 simp only[BR]
 by_cases h:i≤j
 ·have hi':i<d.size:=by omega
  simp (disch:=omega) only[h,AU2,Aa,Al,B8,Cm,AK,AWQ]
  cases ltX d[i]! d[a]!<;>simp
 ·simp only[h,AVA,AWT,AU3]
theorem AEG(hi:i≤d.size):(Ln S.z S.c) ((rep d),(a:Int),(i:Int),(j:Int),())=if i≤j∧(fun x=>ltX x d[a]!) d[i]! = true then some (.inl ((rep d),(a:Int),((i+1:Nat):Int),(j:Int),()))else some (.inr (.inl ((rep d),(a:Int),(i:Int),(j:Int),()))):=by
 rw[Ln]
 simp only[BR]
 by_cases h:i≤j
 ·have hi':i<d.size:=by omega
  simp (disch:=omega) only[h,AU2,Aa,Al,B8,Cm,AK,AWQ]
  cases ltX d[i]! d[a]!<;>simp
 ·simp only[h,AVA,AWT,AU3]
theorem AEH(hi:1≤i):(Lp S.z S.c) ((rep d),(a:Int),(i:Int),(j:Int),())=if i≤j∧(fun x => !ltX x d[a]!) d[j]! = true then some (.inl ((rep d),(a:Int),(i:Int),((j-1:Nat):Int),()))else some (.inr (.inl ((rep d),(a:Int),(i:Int),(j:Int),()))):=by
 rw[Lp]
 simp only[BR]
 by_cases h:i≤j
 ·simp (disch:=omega) only[h,AU2,Aa,Al,B8,Cm,Af,AWQ]
  cases ltX d[j]! d[a]!<;>simp
 ·simp only[h,AVA,AWT,AU3]
theorem AEF(hi:1≤i):(Lm S.z S.c) ((rep d),(a:Int),(i:Int),(j:Int),())=if i≤j∧(fun x => !ltX x d[a]!) d[j]! = true then some (.inl ((rep d),(a:Int),(i:Int),((j-1:Nat):Int),()))else some (.inr (.inl ((rep d),(a:Int),(i:Int),(j:Int),()))):=by
 rw[Lm]
 simp only[BR]
 by_cases h:i≤j
 ·simp (disch:=omega) only[h,AU2,Aa,Al,B8,Cm,Af,AWQ]
  cases ltX d[j]! d[a]!<;>simp
 ·simp only[h,AVA,AWT,AU3]
theorem Wa(hi:i≤d.size):(Ht S.z S.c) ((rep d),(a:Int),(i:Int),(j:Int),())=if i≤j∧(fun x => !ltX d[a]! x) d[i]! = true then some (.inl ((rep d),(a:Int),((i+1:Nat):Int),(j:Int),()))else some (.inr (.inl ((rep d),(a:Int),(i:Int),(j:Int),()))):=by
 rw[Ht]
 simp only[BR]
 by_cases h:i≤j
 ·have hi':i<d.size:=by omega
  simp (disch:=omega) only[h,AU2,Aa,Al,B8,Cm,AK,AWQ]
  cases ltX d[a]! d[i]!<;>simp
 ·simp only[h,AVA,AWT,AU3]
theorem WZ(hi:1≤i):(Hs S.z S.c) ((rep d),(a:Int),(i:Int),(j:Int),())=if i≤j∧(fun x=>ltX d[a]! x) d[j]! = true then some (.inl ((rep d),(a:Int),(i:Int),((j-1:Nat):Int),()))else some (.inr (.inl ((rep d),(a:Int),(i:Int),(j:Int),()))):=by
 rw[Hs]
 simp only[BR]
 by_cases h:i≤j
 ·simp (disch:=omega) only[h,AU2,Aa,Al,B8,Cm,Af,AWQ]
  cases ltX d[a]! d[j]!<;>simp
 ·simp only[h,AVA,AWT,AU3]
end
theorem Ct(p:(EL S)→Bool)(d:Array (EL S))(j i:Nat)(hj:j<d.size)(hi:i≤d.size):scanUp p d j i≤d.size:=by
 suffices h:∀ (k i:Nat),j+1-i=k→i≤d.size→scanUp p d j i≤d.size from h _ i rfl hi
 intro k
 induction k using Nat.strongRecOn with
 |_ k ih=>
 intro i hk hi
 rw[scanUp]
 split
 ·rename_i h
  have:i≤j:=by simp at h;exact h.1
  exact ih (j+1-(i+1)) (by omega) (i+1) rfl (by omega)
 ·exact hi
theorem AHe(a:Nat):∀ (k i j:Nat) (d:Array (EL S)) (n:Nat),j+1-i=k→a<d.size→1≤i→i≤d.size→j<d.size→d.size<4294967296→k<n →
  AT (Lo S.z S.c) n ((rep d),(a:Int),(i:Int),(j:Int),())=some (.inl ((rep (partLoop ltX a i j d).2),(a:Int),(((partLoop ltX a i j d).1:Nat):Int),()))∧(partLoop ltX a i j d).1≤j∧(partLoop ltX a i j d).2.size=d.size:=by
 intro k
 induction k using Nat.strongRecOn with
 |_ k ih=>
 intro i j d n hk ha hi hi' hj hs hn
 have hm:4294967296<many:=by simp only[many];omega
 obtain⟨n,rfl⟩:∃ k,n=k+1:=⟨n-1,by omega⟩
 rw[partLoop_eq,AT,Lo]
 have u1:=scanUp_ge (fun x=>ltX x d[a]!) d j i
 have u2:=Ct (fun x=>ltX x d[a]!) d j i hj hi'
 rw[Ak,ZH _ (fun x=>ltX x d[a]!) d a j hs hj (fun i h=>AEG d a i j hs ha hj h) _ i many rfl hi' (by omega)]
 generalize scanUp (fun x=>ltX x d[a]!) d j i=i2 at *
 have v1:=scanDown_le (fun x => !ltX x d[a]!) d i2 j
 simp only[Ak]
 rw[Na _ (fun x => !ltX x d[a]!) d a i2 (by omega) (fun j h=>AEF d a i2 j hs ha h (by omega)) j many hj (by omega)]
 generalize scanDown (fun x => !ltX x d[a]!) d i2 j=j2 at *
 simp only[AR]
 by_cases h:j2<i2
 ·simp only[h,AU2,AWZ,AVM]
  exact⟨trivial,v1,trivial⟩
 ·have hi2:i2<d.size:=by omega
  have hj2:j2<d.size:=by omega
  simp only[h,AVA,AWZ,AU3,Aa hi2,Aa hj2,(DL hi2 hj2).1,(DL hi2 hj2).2]
  simp (disch:=omega) only[AK,Af]
  obtain⟨q1,q2,q3⟩:=ih (j2-1+1-(i2+1)) (by omega) (i2+1) (j2-1) (swp d i2 j2) n rfl (by rw[size_swp];omega) (by omega) (by rw[size_swp];omega) (by rw[size_swp];omega) (by rw[size_swp];omega) (by omega)
  exact⟨q1,by omega,by rw[q3,size_swp]⟩
theorem AML(d:Array (EL S))(a b p:Nat)(ha:a≤p)(hp:p<b)(hb:b≤d.size)(hs:d.size<4294967296):
  (XX S.z S.c) ((rep d),(a:Int),(b:Int),(p:Int),())=some ((rep (partition ltX d a b p).2.2),(((partition ltX d a b p).1:Nat):Int),(partition ltX d a b p).2.1,()):=by
 have hm:4294967296<many:=by simp only[many];omega
 have ha':a<d.size:=by omega
 have hp':p<d.size:=by omega
 rw[APy,Q6,partition]
 simp only[Aa ha',Aa hp',(DL ha' hp').1,(DL ha' hp').2]
 have hs':=hs
 rw[← size_swp d a p]at ha' hs' hb
 generalize swp d a p=d at *
 simp (disch:=omega) only[AK,Af,Ak]
 have u1:=scanUp_ge (fun x=>ltX x d[a]!) d (b-1) (a+1)
 have u2:=Ct (fun x=>ltX x d[a]!) d (b-1) (a+1) (by omega) (by omega)
 rw[ZH _ (fun x=>ltX x d[a]!) d a (b-1) hs' (by omega) (fun i h=>AEI d a i (b-1) hs' ha' (by omega) h) _ (a+1) many rfl (by omega) (by omega)]
 generalize scanUp (fun x=>ltX x d[a]!) d (b-1) (a+1)=i2 at *
 have v1:=scanDown_le (fun x => !ltX x d[a]!) d i2 (b-1)
 simp only[]
 rw[Na _ (fun x => !ltX x d[a]!) d a i2 (by omega) (fun j h=>AEH d a i2 j hs' ha' h (by omega)) (b-1) many (by omega) (by omega)]
 generalize scanDown (fun x => !ltX x d[a]!) d i2 (b-1)=j2 at *
 simp only[AR]
 have hj2:j2<d.size:=by omega
 by_cases h:j2<i2
 ·simp only[h,AU2,AWZ,AVM,Aa ha',Aa hj2,(DL hj2 ha').1,(DL hj2 ha').2]
 ·have hi2:i2<d.size:=by omega
  simp only[h,AVA,AWZ,AU3,Aa hi2,Aa hj2,(DL hi2 hj2).1,(DL hi2 hj2).2]
  simp (disch:=omega) only[AK,Af]
  obtain⟨q1,q2,q3⟩:=AHe a (j2-1+1-(i2+1)) (i2+1) (j2-1) (swp d i2 j2) many rfl (by rw[size_swp];omega) (by omega) (by rw[size_swp];omega) (by rw[size_swp];omega) (by rw[size_swp];omega) (by omega)
  simp only[q1]
  rw[size_swp]at q3
  generalize partLoop ltX a (i2+1) (j2-1) (swp d i2 j2)=r at *
  have h1:r.1<r.2.size:=by omega
  have h2:a<r.2.size:=by omega
  simp only[Aa h1,Aa h2,(DL h1 h2).1,(DL h1 h2).2]
theorem Zu(a:Nat):∀ (k i j:Nat) (d:Array (EL S)) (n:Nat),j+1-i=k→a<d.size→1≤i→i≤d.size→j<d.size→d.size<4294967296→k<n →
  AT (Hu S.z S.c) n ((rep d),(a:Int),(i:Int),(j:Int),())=some (.inl ((rep (partEqLoop ltX a i j d).2),(((partEqLoop ltX a i j d).1:Nat):Int),())):=by
 intro k
 induction k using Nat.strongRecOn with
 |_ k ih=>
 intro i j d n hk ha hi hi' hj hs hn
 have hm:4294967296<many:=by simp only[many];omega
 obtain⟨n,rfl⟩:∃ k,n=k+1:=⟨n-1,by omega⟩
 rw[partEqLoop_eq,AT,Hu]
 have u1:=scanUp_ge (fun x => !ltX d[a]! x) d j i
 have u2:=Ct (fun x => !ltX d[a]! x) d j i hj hi'
 rw[Ak,ZH _ (fun x => !ltX d[a]! x) d a j hs hj (fun i h=>Wa d a i j hs ha hj h) _ i many rfl hi' (by omega)]
 generalize scanUp (fun x => !ltX d[a]! x) d j i=i2 at *
 have v1:=scanDown_le (fun x=>ltX d[a]! x) d i2 j
 simp only[Ak]
 rw[Na _ (fun x=>ltX d[a]! x) d a i2 (by omega) (fun j h=>WZ d a i2 j hs ha h (by omega)) j many hj (by omega)]
 generalize scanDown (fun x=>ltX d[a]! x) d i2 j=j2 at *
 simp only[AR]
 by_cases h:j2<i2
 ·simp only[h,AU2,AWZ,AVM]
 ·have hi2:i2<d.size:=by omega
  have hj2:j2<d.size:=by omega
  simp only[h,AVA,AWZ,AU3,Aa hi2,Aa hj2,(DL hi2 hj2).1,(DL hi2 hj2).2]
  simp (disch:=omega) only[AK,Af]
  exact ih (j2-1+1-(i2+1)) (by omega) (i2+1) (j2-1) (swp d i2 j2) n rfl (by rw[size_swp];omega) (by omega) (by rw[size_swp];omega) (by rw[size_swp];omega) (by rw[size_swp];omega) (by omega)
theorem AEM(d:Array (EL S))(a b p:Nat)(ha:a≤p)(hp:p<b)(hb:b≤d.size)(hs:d.size<4294967296):
  (Q7 S.z S.c) ((rep d),(a:Int),(b:Int),(p:Int),())=some ((rep (partitionEqual ltX d a b p).2),(((partitionEqual ltX d a b p).1:Nat):Int),()):=by
 have hm:4294967296<many:=by simp only[many];omega
 have ha':a<d.size:=by omega
 have hp':p<d.size:=by omega
 rw[AHs,Jj,partitionEqual]
 simp only[Aa ha',Aa hp',(DL ha' hp').1,(DL ha' hp').2]
 have hs':=hs
 rw[← size_swp d a p]at ha' hs' hb
 generalize swp d a p=d at *
 simp (disch:=omega) only[AK,Af,Ak]
 rw[Zu a _ (a+1) (b-1) d many rfl ha' (by omega) (by omega) (by omega) hs' (by omega)]
end Go.Pev.Pl.SG
end
section
namespace Go.Pev.Pl.SG
open Go.Sort
variable {α:Type} {S:SP α}
theorem Dy(d:Array (EL S))(b:Nat):∀ (k i:Nat),b-i=k→i≤b→i≤scanSorted ltX d b i∧scanSorted ltX d b i≤b:=by
 intro k
 induction k using Nat.strongRecOn with
 |_ k ih=>
 intro i hk hi
 rw[scanSorted]
 split
 ·rename_i h
  have:i<b:=by simp at h;exact h.1
  have:=ih (b-(i+1)) (by omega) (i+1) rfl (by omega)
  omega
 ·omega
theorem WN(d:Array (EL S))(a b s:Nat)(hb:b≤d.size)(hs:d.size<4294967296):∀ (k i n:Nat),b-i=k→1≤i→i≤b→k<n →
  AT (Gn S.z S.c) n ((rep d),(a:Int),(b:Int),(i:Int),(s:Int),())=some (.inl ((rep d),(a:Int),(b:Int),((scanSorted ltX d b i:Nat):Int),(s:Int),())):=by
 intro k
 induction k using Nat.strongRecOn with
 |_ k ih=>
 intro i n hk h1 hi hn
 obtain⟨n,rfl⟩:∃ k,n=k+1:=⟨n-1,by omega⟩
 rw[scanSorted,AT,Gn]
 simp only[AR]
 by_cases h:i<b
 ·have i0:i<d.size:=by omega
  have i1:i-1<d.size:=by omega
  simp (disch:=omega) only[h,AU2,Af,AK,Aa,Al,B8,Cm,Bool.true_and]
  cases h2:ltX d[i]! d[i-1]!
  ·simp only[AVg,AVM]
   exact ih (b-(i+1)) (by omega) (i+1) n rfl (by omega) (by omega) (by omega)
  ·simp only[AU7,AU5,AU3]
 ·simp only[h,AVA,AWp,AU5,AU3]
theorem WQ(a b i s:Nat):∀ (j:Nat) (d:Array (EL S)) (n:Nat),j<d.size→d.size<4294967296→j<n →
  AT (E8 S.z S.c) n ((rep d),(a:Int),(b:Int),(i:Int),(s:Int),(j:Int),())=some (.inl ((rep (shiftDown ltX j d)),(a:Int),(b:Int),(i:Int),(s:Int),())):=by
 intro j
 induction j with
 |zero=>
  intro d n hj hs hn
  obtain⟨n,rfl⟩:∃ k,n=k+1:=⟨n-1,by omega⟩
  rw[AT,E8,Aw,AUp (by omega)]
  rfl
 |succ j ih=>
  intro d n hj hs hn
  obtain⟨n,rfl⟩:∃ k,n=k+1:=⟨n-1,by omega⟩
  have hj':j<d.size:=by omega
  rw[shiftDown,AT,E8,Aw,AUr (by omega)]
  simp (disch:=omega) only[Af,Nat.add_sub_cancel,Aa,Al,B8,Cm]
  cases h2:ltX d[j+1]! d[j]!
  ·simp only[AVg,AVM]
  ·have e1:=DL hj hj'
   simp only[Al hj,Al hj']at e1
   simp only[AU7,AU5,AU3,e1]
   exact ih _ n (by rw[size_swp];omega) (by rw[size_swp];omega) (by omega)
theorem Pq(a b i s:Nat):∀ (k j:Nat) (d:Array (EL S)) (n:Nat),b-j=k→1≤j→b≤d.size→d.size<4294967296→k<n →
  AT (E7 S.z S.c) n ((rep d),(a:Int),(b:Int),(i:Int),(s:Int),(j:Int),())=some (.inl ((rep (shiftUp ltX b j d)),(a:Int),(b:Int),(i:Int),(s:Int),())):=by
 intro k
 induction k using Nat.strongRecOn with
 |_ k ih=>
 intro j d n hk h1 hb hs hn
 obtain⟨n,rfl⟩:∃ k,n=k+1:=⟨n-1,by omega⟩
 rw[shiftUp,AT,E7]
 simp only[AR]
 by_cases h:j<b
 ·have i0:j<d.size:=by omega
  have i1:j-1<d.size:=by omega
  simp (disch:=omega) only[h,AU2,AVM,Af,AK,Aa,Al,B8,Cm]
  cases h2:ltX d[j]! d[j-1]!
  ·simp only[AVg,AVM]
  ·have e1:=DL i0 i1
   simp only[Al i0,Al i1]at e1
   simp only[AU7,AU5,AU3,e1]
   exact ih (b-(j+1)) (by omega) (j+1) _ n rfl (by omega) (by rw[size_swp];omega) (by rw[size_swp];omega) (by omega)
 ·simp only[h,AVA,AU3]
theorem F9:∀ (j:Nat) (d:Array (EL S)),(shiftDown ltX j d).size=d.size:=by
 intro j
 induction j with
 |zero=>intro d;rfl
 |succ j ih=>
  intro d
  rw[shiftDown]
  split
  ·rfl
  ·rw[ih,size_swp]
theorem Br(b:Nat):∀ (k j:Nat) (d:Array (EL S)),b-j=k→(shiftUp ltX b j d).size=d.size:=by
 intro k
 induction k using Nat.strongRecOn with
 |_ k ih=>
 intro j d hk
 rw[shiftUp]
 split
 ·split
  ·rfl
  ·rw[ih (b-(j+1)) (by omega) (j+1) _ rfl,size_swp]
 ·rfl
theorem WO(a b:Nat)(hab:a<b):∀ (k i s:Nat) (d:Array (EL S)) (n:Nat),s+k=5→a+1≤i→i≤b→b≤d.size→d.size<4294967296→k<n →
  AT (CP S.z S.c) n ((rep d),(a:Int),(b:Int),(i:Int),(s:Int),())=some (.inl ((rep (partialIns ltX a b k i d).1),(partialIns ltX a b k i d).2,())) ∨
  ((partialIns ltX a b k i d).2=false∧AT (CP S.z S.c) n ((rep d),(a:Int),(b:Int),(i:Int),(s:Int),())=some (.inr (.inl ((rep (partialIns ltX a b k i d).1),())))):=by
 intro k
 induction k with
 |zero=>
  intro i s d n hk h1 hi hb hs hn
  obtain⟨n,rfl⟩:∃ k,n=k+1:=⟨n-1,by omega⟩
  rw[AT,CP,An,AUp (by omega)]
  exact .inr ⟨rfl,rfl⟩
 |succ k ih=>
  intro i s d n hk h1 hi hb hs hn
  have hm:4294967296<many:=by simp only[many];omega
  have es:IntKind.wrap .i64 ((s:Int)+1)=((s+1:Nat):Int):=AK (by omega)
  obtain⟨n,rfl⟩:∃ k,n=k+1:=⟨n-1,by omega⟩
  rw[AT,CP,An,AUr (by omega),partialIns]
  simp only[Ak,WN d a b s hb hs (b-i) i many rfl (by omega) hi (by omega)]
  have hsc:=Dy d b _ i rfl hi
  generalize scanSorted ltX d b i=i2 at *
  simp only[AAt]
  by_cases h2:i2=b
  ·simp only[h2,AU2,AVM,true_or]
  ·simp (disch:=omega) only[h2,AVA,AU3,BQ,An,Aw]
   by_cases h3:b-a<50
   ·rw[AU4 h3,AUr (by omega)]
    exact .inl rfl
   ·have i0:i2<d.size:=by omega
    have i1:i2-1<d.size:=by omega
    rw[AUy h3,AUp (by omega)]
    simp (disch:=omega) only[Af,AK,Aa i0,Aa i1,(DL i0 i1).1,(DL i0 i1).2]
    have hsz:=size_swp d i2 (i2-1)
    generalize swp d i2 (i2-1)=d2 at *
    by_cases h4:i2-a≥2
    ·rw[AU4 h4,AUr (show(2:Int)≤((i2-a:Nat):Int) by omega)]
     simp only[WQ a b i2 s (i2-1) d2 many (by omega) (by omega) (by omega)]
     have hsz2:=F9 (i2-1) d2
     generalize shiftDown ltX (i2-1) d2=d3 at *
     simp (disch:=omega) only[BQ,AK]
     by_cases h5:b-i2≥2
     ·rw[AU4 h5,AUr (show(2:Int)≤((b-i2:Nat):Int) by omega)]
      simp only[Pq a b i2 s _ (i2+1) d3 many rfl (by omega) (by omega) (by omega) (by omega)]
      simp only[es]
      exact ih i2 (s+1) (shiftUp ltX b (i2+1) d3) n (by omega) (by omega) (by omega) (by rw[Br b (b-(i2+1)) (i2+1) _ rfl];omega) (by rw[Br b (b-(i2+1)) (i2+1) _ rfl];omega) (by omega)
     ·rw[AUy h5,AUp (show ¬ (2:Int)≤((b-i2:Nat):Int) by omega)]
      simp only[es]
      exact ih i2 (s+1) d3 n (by omega) (by omega) (by omega) (by omega) (by omega) (by omega)
    ·rw[AUy h4,AUp (show ¬ (2:Int)≤((i2-a:Nat):Int) by omega)]
     by_cases h5:b-i2≥2
     ·rw[AU4 h5,AUr (show(2:Int)≤((b-i2:Nat):Int) by omega)]
      simp only[Pq a b i2 s _ (i2+1) d2 many rfl (by omega) (by omega) (by omega) (by omega)]
      simp only[es]
      exact ih i2 (s+1) (shiftUp ltX b (i2+1) d2) n (by omega) (by omega) (by omega) (by rw[Br b (b-(i2+1)) (i2+1) _ rfl];omega) (by rw[Br b (b-(i2+1)) (i2+1) _ rfl];omega) (by omega)
     ·rw[AUy h5,AUp (show ¬ (2:Int)≤((b-i2:Nat):Int) by omega)]
      simp only[es]
      exact ih i2 (s+1) d2 n (by omega) (by omega) (by omega) (by omega) (by omega) (by omega)
theorem Zm(d:Array (EL S))(a b:Nat)(hab:a<b)(hb:b≤d.size)(hs:d.size<4294967296):
  (Lj S.z S.c) ((rep d),(a:Int),(b:Int),())=some ((rep (partialInsertionSort ltX d a b).1),(partialInsertionSort ltX d a b).2,()):=by
 have hm:4294967296<many:=by simp only[many];omega
 rw[ADu,Hr,partialInsertionSort]
 simp (disch:=omega) only[AK,Ak]
 have h:=WO a b hab 5 (a+1) 0 d many rfl (AU1 _) (by omega) hb hs (by omega)
 rcases h with h|⟨h0,h⟩
 ·have h':AT (CP S.z S.c) many ((rep d),(a:Int),(b:Int),((a+1:Nat):Int),(0:Int),())=_:=h
  rw[h']
 ·have h':AT (CP S.z S.c) many ((rep d),(a:Int),(b:Int),((a+1:Nat):Int),(0:Int),())=_:=h
  rw[h',h0]
theorem I0(d:Array (EL S))(a b:Nat)(s:Int)(ha:a<d.size)(hb:b<d.size):
  ∃ s' p q,(Jm S.z S.c) ((rep d),(a:Int),(b:Int),s,())=some ((rep d),s',((p:Nat):Int),((q:Nat):Int),())∧(p=a∧q=b∨p=b∧q=a):=by
 rw[AHv,Jl]
 simp only[Aa ha,Aa hb,Al ha,Al hb,B8,Cm]
 cases ltX d[b]! d[a]!
 ·exact⟨_,a,b,rfl,.inl ⟨rfl,rfl⟩⟩
 ·exact⟨_,b,a,rfl,.inr ⟨rfl,rfl⟩⟩
theorem I3(d:Array (EL S))(a b c:Nat)(s:Int)(ha:a<d.size)(hb:b<d.size)(hc:c<d.size):
  ∃ s' p,(Jr S.z S.c) ((rep d),(a:Int),(b:Int),(c:Int),s,())=some ((rep d),s',((p:Nat):Int),())∧(p=a∨p=b∨p=c):=by
 rw[AII,Jq]
 obtain⟨s1,p1,q1,e1,h1⟩:=I0 d a b s ha hb
 simp only[e1]
 obtain⟨s2,p2,q2,e2,h2⟩:=I0 d q1 c s1 (by omega) hc
 simp only[e2]
 obtain⟨s3,p3,q3,e3,h3⟩:=I0 d p1 p2 s2 (by omega) (by omega)
 simp only[e3]
 exact⟨_,q3,rfl,by omega⟩
theorem I5(d:Array (EL S))(a:Nat)(s:Int)(h1:1≤a)(ha:a+1<d.size)(hs:d.size<4294967296):
  ∃ s' p,(Ju S.z S.c) ((rep d),(a:Int),s,())=some ((rep d),s',((p:Nat):Int),())∧a≤p+1∧p≤a+1:=by
 rw[AIK,Jt]
 simp (disch:=omega) only[Af,AK]
 obtain⟨s1,p1,e1,h1⟩:=I3 d (a-1) a (a+1) s (by omega) (by omega) ha
 simp only[e1]
 exact⟨_,p1,rfl,by omega⟩
theorem AHR(d:Array (EL S))(a b:Nat)(hab:a+8≤b)(hb:b≤d.size)(hs:d.size<4294967296):
  ∃ p h,(ZV S.z S.c) ((rep d),(a:Int),(b:Int),())=some ((rep d),((p:Nat):Int),h,())∧a≤p∧p<b:=by
 rw[AMC,Lf]
 simp (disch:=omega) only[BQ,PQ,W3,Dk,W2,wrap_add,Aw]
 rw[AUr (show(8:Int)≤((b-a:Nat):Int) by omega)]
 simp only[]
 by_cases h:50≤b-a
 ·rw[AUr (show(50:Int)≤((b-a:Nat):Int) by omega)]
  simp only[]
  obtain⟨s1,p1,e1,h1⟩:=I5 d (a+(b-a)/4*1) 0 (by omega) (by omega) hs
  simp only[e1]
  obtain⟨s2,p2,e2,h2⟩:=I5 d (a+(b-a)/4*2) s1 (by omega) (by omega) hs
  simp only[e2]
  obtain⟨s3,p3,e3,h3⟩:=I5 d (a+(b-a)/4*3) s2 (by omega) (by omega) hs
  simp only[e3]
  obtain⟨s4,p4,e4,h4⟩:=I3 d p1 p2 p3 s3 (by omega) (by omega) (by omega)
  simp only[e4]
  cases ieq s4 0
  ·cases ieq s4 12
   ·exact⟨p4,_,rfl,by omega,by omega⟩
   ·exact⟨p4,_,rfl,by omega,by omega⟩
  ·exact⟨p4,_,rfl,by omega,by omega⟩
 ·rw[AUp (show ¬ (50:Int)≤((b-a:Nat):Int) by omega)]
  simp only[]
  obtain⟨s4,p4,e4,h4⟩:=I3 d (a+(b-a)/4*1) (a+(b-a)/4*2) (a+(b-a)/4*3) 0 (by omega) (by omega) (by omega)
  simp only[e4]
  cases ieq s4 0
  ·cases ieq s4 12
   ·exact⟨p4,_,rfl,by omega,by omega⟩
   ·exact⟨p4,_,rfl,by omega,by omega⟩
  ·exact⟨p4,_,rfl,by omega,by omega⟩
end Go.Pev.Pl.SG
end
section
namespace Go.Pev.Pl
open Go.Sort
theorem AM5:(List.range 256).all (fun k=>match FO[k]? with
  |some v=>decide (0≤v)&&(decide (v≤8)&&decide (2 ^ v.toNat≤max 1 (2*k)))
  |none=>false)=true:=by decide +kernel
theorem AM6{k:Nat}(h:k<256):∃ v:Nat,idx FO (k:Int)=some (v:Int)∧v≤8∧2 ^ v≤max 1 (2*k):=by
 have:=AVC.1 AM5 k (AWE.2 h)
 rw[idx_eq,OS,AUy (by omega),AVq]
 cases e:FO[k]? with
 |none=>rw[e]at this;cases this
 |some v=>
  rw[e]at this
  simp only[AUu,AUs]at this
  exact⟨v.toNat,by rw[Int.toNat_of_nonneg this.1],by omega,this.2.2⟩
theorem Q2(n s:Nat)(h:s≤64):shr? .u64 (n:Int) (s:Int)=some ((n/2 ^ s:Nat):Int):=by
 rw[AGm,ACt,AUy (by omega),AVq,show min s (IntKind.bits .u64)=s from AV7 h,Int.fdiv_eq_ediv_of_nonneg _ (Int.pow_nonneg (by omega))]
 rfl
theorem u8_in{n:Int}(h:0≤n∧n≤255):IntKind.wrap .u8 n=n:=IntWalk.u8_in n h
theorem u64_in{n:Int}(h:0≤n∧n≤18446744073709551615):IntKind.wrap .u64 n=n:=IntWalk.u64_in n h
theorem AM7(n:Nat)(hn:n<4294967296):∃ v:Nat,AEm ((n:Int),())=some ((v:Int),())∧v≤32∧2 ^ v≤max 1 (2*n):=by
 rw[AEl,RH,Aw,AUp (by omega)]
 simp only[Aw]
 have key:∀ (s m:Nat),s≤24→m<256→m*2 ^ s≤n→(s=0∨1≤m)→∃ v:Nat,idx FO (m:Int)=some (v:Int)∧v≤8∧2 ^ (s+v)≤max 1 (2*n):=by
  intro s m hs hm hle h1
  obtain⟨v,e,h8,hp⟩:=AM6 hm
  refine⟨v,e,h8,?_⟩
  rcases h1 with rfl|h1
  ·rw[AVs];simp at hle;omega
  ·have h2:2 ^ v≤2*m:=by omega
   have h3:2 ^ (s+v)≤2*(m*2 ^ s):=by
    rw[Nat.pow_add,Nat.mul_comm (2 ^ s),← Nat.mul_assoc]
    exact AVZ _ h2
   omega
 by_cases h1:65536≤n
 ·rw[AUr (show(65536:Int)≤(n:Int) by omega)]
  have e16:shr? .u64 (n:Int) 16=some ((n/65536:Nat):Int):=Q2 n 16 (by omega)
  simp only[e16]
  by_cases h2:256≤n/65536
  ·rw[AUr (show(256:Int)≤((n/65536:Nat):Int) by omega)]
   have e8:shr? .u64 ((n/65536:Nat):Int) 8=some ((n/65536/256:Nat):Int):=Q2 _ 8 (by omega)
   obtain⟨v,e,h8,hp⟩:=key 24 (n/65536/256) (by omega) (by omega) (by omega) (by omega)
   simp only[e8]
   rw[u8_in (by omega)]
   simp only[e]
   refine⟨24+v,?_,by omega,hp⟩
   rw[Ah (n:=0+16) (by omega),Ah (n:=(0:Int)+16+8) (by omega),Ah (n:=(v:Int)) (by omega),Ah (by omega)]
   congr 2
  ·rw[AUp (show ¬ (256:Int)≤((n/65536:Nat):Int) by omega)]
   obtain⟨v,e,h8,hp⟩:=key 16 (n/65536) (by omega) (by omega) (by omega) (by omega)
   simp only[]
   rw[u8_in (by omega)]
   simp only[e]
   refine⟨16+v,?_,by omega,hp⟩
   rw[Ah (n:=0+16) (by omega),Ah (n:=(v:Int)) (by omega),Ah (by omega)]
   congr 2
 ·rw[AUp (show ¬ (65536:Int)≤(n:Int) by omega)]
  by_cases h2:256≤n
  ·have e8:shr? .u64 (n:Int) 8=some ((n/256:Nat):Int):=Q2 n 8 (by omega)
   obtain⟨v,e,h8,hp⟩:=key 8 (n/256) (by omega) (by omega) (by omega) (by omega)
   simp only[]
   rw[AUr (show(256:Int)≤(n:Int) by omega)]
   simp only[e8]
   rw[u8_in (by omega)]
   simp only[e]
   refine⟨8+v,?_,by omega,hp⟩
   rw[Ah (n:=0+8) (by omega),Ah (n:=(v:Int)) (by omega),Ah (by omega)]
   congr 2
  ·obtain⟨v,e,h8,hp⟩:=key 0 n (by omega) (by omega) (by omega) (by omega)
   simp only[]
   rw[AUp (show ¬ (256:Int)≤(n:Int) by omega)]
   simp only[]
   rw[u8_in (by omega)]
   simp only[e]
   refine⟨0+v,?_,by omega,hp⟩
   rw[Ah (n:=(v:Int)) (by omega),Ah (by omega)]
   congr 2
theorem JS(n:Nat)(hn:n<4294967296):∃ v:Nat,bitsLen ((n:Int),())=some ((v:Int),())∧v≤32∧2 ^ v≤max 1 (2*n):=by
 rw[VY,J6]
 obtain⟨v,e,h⟩:=AM7 n hn
 simp only[e]
 exact⟨v,rfl,h⟩
theorem Pr(n:Nat)(h1:1≤n)(hn:n<4294967296):∃ m:Nat,Jo ((n:Int),())=some ((m:Int),())∧1≤m∧m≤2*n:=by
 rw[TL,Jn,u64_in (by omega)]
 obtain⟨v,e,h32,hp⟩:=JS n hn
 simp only[e]
 have e2:shl? .u64 (1:Int) (v:Int)=some ((2 ^ v:Nat):Int):=by
  rw[ZB,ZC,AUy (by omega),AVq,show min v (IntKind.bits .u64)=v from AV7 (by show v≤64;omega),Int.one_mul]
  have:2 ^ v≤2 ^ 32:=Nat.pow_le_pow_right (by omega) h32
  have h1:1≤2 ^ v:=Nat.one_le_two_pow
  have e:((2:Int) ^ v)=((2 ^ v:Nat):Int):=by simp
  rw[e,u64_in (by constructor<;>omega)]
 simp only[e2]
 exact⟨2 ^ v,rfl,Nat.one_le_two_pow,by omega⟩
theorem PL(r:Int):∃ r' y,xorNext (r,())=some (r',y,()):=by
 rw[RX,Jc,ZB,ZC,AUy (by omega)]
 simp only[]
 rw[AGm,ACt,AUy (by omega)]
 simp only[]
 rw[ZB,ZC,AUy (by omega)]
 exact⟨_,_,rfl⟩
theorem AEN(y:Int)(m:Nat)(h1:1≤m)(hm:m<18446744073709551616):∃ o:Nat,IntKind.wrap .u64 ((BitVec.ofInt (IntKind.bits .u64) y &&& BitVec.ofInt (IntKind.bits .u64) (IntKind.wrap .u64 ((m:Int)-1))).toNat)=(o:Int)∧o<m:=by
 rw[u64_in (n:=(m:Int)-1) (by omega),show(m:Int)-1=((m-1:Nat):Int) by omega,BitVec.toNat_and]
 have h2:(BitVec.ofInt (IntKind.bits .u64) ((m-1:Nat):Int)).toNat=m-1:=by
  rw[BitVec.ofInt_natCast,BitVec.toNat_ofNat]
  exact Nat.mod_eq_of_lt (by show m-1<18446744073709551616;omega)
 rw[h2]
 have h3:(BitVec.ofInt (IntKind.bits .u64) y).toNat &&& (m-1)≤m-1:=Nat.and_le_right
 exact⟨_,u64_in (by omega),by omega⟩
end Go.Pev.Pl
end
section
namespace Go.Pev.Pl.SG
open Go.Sort
variable {α:Type} {S:SP α}
theorem AFz(a b:Nat)(m:Nat)(h8:a+8≤b)(hm1:1≤m)(hm:m≤2*(b-a)):∀ (k t:Nat) (d:Array (EL S)) (r:Int) (n:Nat),t+k=3→b≤d.size→d.size<4294967296→k<n →
  ∃ d':Array (EL S),AT (Ft S.z S.c) n ((rep d),(a:Int),((b-a:Nat):Int),r,(m:Int),((a+(b-a)/4*2-1+t:Nat):Int),())=some (.inl ((rep d'),()))∧PermIn a b d d':=by
 intro k
 induction k with
 |zero=>
  intro t d r n hk hb hs hn
  obtain⟨n,rfl⟩:∃ k,n=k+1:=⟨n-1,by omega⟩
  rw[AT,Ft]
  simp (disch:=omega) only[PQ,Dk,wrap_add,AK,BR]
  rw[AUp (by omega)]
  exact⟨d,rfl,permIn_refl d a b⟩
 |succ k ih=>
  intro t d r n hk hb hs hn
  obtain⟨n,rfl⟩:∃ k,n=k+1:=⟨n-1,by omega⟩
  rw[AT,Ft]
  simp (disch:=omega) only[PQ,Dk,wrap_add,AK,BR]
  rw[AUr (show a+(b-a)/4*2-1+t≤a+(b-a)/4*2+1 by omega)]
  obtain⟨r',y,e⟩:=PL r
  obtain⟨o,e2,ho⟩:=AEN y m hm1 (by omega)
  simp only[e,e2]
  rw[Ah (n:=(o:Int)) (by omega)]
  simp only[BR]
  have i0:a+(b-a)/4*2-1+t<d.size:=by omega
  have fin:∀ q:Nat,a≤q→q<b→∃ d':Array (EL S),AT (Ft S.z S.c) n ((rep (swp d (a+(b-a)/4*2-1+t) q)),(a:Int),((b-a:Nat):Int),r',(m:Int),((a+(b-a)/4*2-1+t+1:Nat):Int),())=some (.inl ((rep d'),()))∧PermIn a b d d':=by
   intro q hq1 hq2
   obtain⟨d',e',hp⟩:=ih (t+1) (swp d (a+(b-a)/4*2-1+t) q) r' n (by omega) (by rw[size_swp];omega) (by rw[size_swp];omega) (by omega)
   exact⟨d',e',permIn_trans _ _ _ a b (swp_permIn d a b _ q (by omega) (by omega) hq1 hq2 hb) hp⟩
  by_cases h:b-a≤o
  ·have i1:a+(o-(b-a))<d.size:=by omega
   simp (disch:=omega) only[h,AU2,BQ,wrap_add,AK,Aa i0,Aa i1,(DL i0 i1).1,(DL i0 i1).2]
   exact fin _ (by omega) (by omega)
  ·have i1:a+o<d.size:=by omega
   simp (disch:=omega) only[h,AVA,BQ,wrap_add,AK,Aa i0,Aa i1,(DL i0 i1).1,(DL i0 i1).2]
   exact fin _ (by omega) (by omega)
theorem AJn(d:Array (EL S))(a b:Nat)(hab:a≤b)(hb:b≤d.size)(hs:d.size<4294967296):
  ∃ d':Array (EL S),(ABi S.z S.c) ((rep d),(a:Int),(b:Int),())=some ((rep d'),())∧PermIn a b d d':=by
 have hm:4294967296<many:=by simp only[many];omega
 rw[AOB,Mo]
 simp (disch:=omega) only[BQ,Aw]
 by_cases h:8≤b-a
 ·rw[AUr (show(8:Int)≤((b-a:Nat):Int) by omega)]
  obtain⟨m,e,h1,h2⟩:=Pr (b-a) (by omega) (by omega)
  simp only[e]
  rw[u64_in (n:=((b-a:Nat):Int)) (by omega)]
  simp (disch:=omega) only[PQ,Dk,wrap_add,Af,Ak]
  obtain⟨d',e2,hp⟩:=AFz a b m (by omega) h1 h2 3 0 d ((b-a:Nat):Int) many rfl hb hs (by omega)
  rw[AWD]at e2
  simp only[e2]
  exact⟨d',rfl,hp⟩
 ·rw[AUp (show ¬ (8:Int)≤((b-a:Nat):Int) by omega)]
  exact⟨d,rfl,permIn_refl d a b⟩
end Go.Pev.Pl.SG
end
section
namespace Go.Pev.Pl.SG
open Go.Sort
variable {α:Type} {S:SP α}
abbrev ALK(α:Type):=List α×Int×Int×Int×Bool×Bool×Unit
abbrev Fj(α:Type):=ALK α⊕(List α×Unit)⊕Unit
def Gd(d:Array (EL S))(a b:Nat):Fj α→Prop
 |.inl (xs,x,y,l,_,_,_)=>∃ (e:Array (EL S)) (i j:Nat),xs=(rep e)∧x=(i:Int)∧y=(j:Int)∧0≤l∧l≤100∧i≤j∧j≤e.size∧e.size=d.size∧j-i<b-a∧Below ltX i j e ∧
   ∀ R,PermIn i j e R→SortedIn ltX i j R→PermIn a b d R∧SortedIn ltX a b R
 |.inr (.inl (xs,_))=>∃ R:Array (EL S),xs=(rep R)∧PermIn a b d R∧SortedIn ltX a b R
 |.inr (.inr _)=>False
def BV(self:(List α×Int×Int×Int×Unit)→Option ((List α×Unit)))(m:Nat):Prop:=
 ∀ (d:Array (EL S)) (a b:Nat) (l:Int),a≤b→b≤d.size→d.size<4294967296→0≤l→l≤100→Below ltX a b d→2*(b-a)<m →
  ∃ R:Array (EL S),self ((rep d),(a:Int),(b:Int),l,())=some ((rep R),())∧PermIn a b d R∧SortedIn ltX a b R
section
variable {self:(List α×Int×Int×Int×Unit)→Option ((List α×Unit))} {d:Array (EL S)} {a b:Nat} {l:Int}
theorem Ir(hself:BV (S:=S) self (b-a))(hb:b≤d.size)(hs:d.size<4294967296)(hl:0≤l∧l≤100)
  {d3:Array (EL S)} {p:Nat} (P3:PermIn a b d d3) (B3:Below ltX a b d3) (hp1:a≤p) (hp2:p<b) :
  ∃ o,(match(XX S.z S.c) ((rep d3),(a:Int),(b:Int),(p:Int),())with
  |none=>none
  |some (y20,y21,y22,_)=>match quo? .i64 (IntKind.wrap .i64 ((b:Int)-(a:Int))) (8:Int)with
   |none=>none
   |some x23=>match(ilt (IntKind.wrap .i64 (y21-(a:Int))) (IntKind.wrap .i64 ((b:Int)-y21)))with
    |true=>match self (y20,(a:Int),y21,l,())with
     |none=>none
     |some (y24,_)=>some ((.inl (y24,(IntKind.wrap .i64 (y21+(1:Int))),(b:Int),l,(ile x23 (IntKind.wrap .i64 (y21-(a:Int)))),y22,())):Fj α)
    |false=>match self (y20,(IntKind.wrap .i64 (y21+(1:Int))),(b:Int),l,())with
     |none=>none
     |some (y25,_)=>some (.inl (y25,(a:Int),y21,l,(ile x23 (IntKind.wrap .i64 ((b:Int)-y21))),y22,())))=some o∧Gd d a b o:=by
 have b3:b≤d3.size:=by rw[P3.1];exact hb
 have s3:d3.size<4294967296:=by rw[P3.1];exact hs
 rw[AML d3 a b p hp1 hp2 b3 s3]
 rcases hx:partition ltX d3 a b p with⟨mid,ap,d4⟩
 obtain⟨g1,g2,hs4,hBa,hBr,hleft,hright⟩:=round_part AOv (partition_holds _) hp1 hp2 b3 B3 hx
 simp (disch:=omega) only[BQ,AK,ATZ,AR]
 have b4:b≤d4.size:=by omega
 by_cases h:mid-a<b-mid
 ·obtain⟨L,e,l1,l2⟩:=hself d4 a mid l g1 (by omega) (by omega) hl.1 hl.2 hBa (by omega)
  simp only[h,AU2,e]
  obtain⟨hBL,hfin⟩:=hleft _ l1 l2
  refine⟨_,rfl,L,mid+1,b,rfl,rfl,rfl,hl.1,hl.2,by omega,by rw[l1.1];exact b4,by rw[l1.1,hs4,P3.1],by omega,hBL,fun R r1 r2 => ?_⟩
  obtain⟨q1,q2⟩:=hfin R r1 r2
  exact⟨permIn_trans _ _ _ a b P3 q1,q2⟩
 ·obtain⟨L,e,l1,l2⟩:=hself d4 (mid+1) b l (by omega) (by omega) (by omega) hl.1 hl.2 hBr (by omega)
  simp only[h,AVA,e]
  obtain⟨hBL,hfin⟩:=hright _ l1 l2
  refine⟨_,rfl,L,a,mid,rfl,rfl,rfl,hl.1,hl.2,by omega,by rw[l1.1];omega,by rw[l1.1,hs4,P3.1],by omega,hBL,fun R r1 r2 => ?_⟩
  obtain⟨q1,q2⟩:=hfin R r1 r2
  exact⟨permIn_trans _ _ _ a b P3 q1,q2⟩
theorem D0(hself:BV (S:=S) self (b-a))(hb:b≤d.size)(hs:d.size<4294967296)(hl:0≤l∧l≤100)
  {d3:Array (EL S)} {p:Nat} (wb wp:Bool) (P3:PermIn a b d d3) (B3:Below ltX a b d3) (hp1:a≤p) (hp2:p<b) :
  ∃ o,(Ni S.z S.c) self (rep d3) (a:Int) (b:Int) (p:Int) l wb wp=some o∧Gd d a b o:=by
 have b3:b≤d3.size:=by rw[P3.1];exact hb
 have s3:d3.size<4294967296:=by rw[P3.1];exact hs
 rw[Ni,An]
 by_cases h0:0<a
 ·rw[AUr (by omega)]
  have i0:a-1<d3.size:=by omega
  have i1:p<d3.size:=by omega
  simp (disch:=omega) only[Af,Aa,Al,B8,Cm]
  cases hc:ltX d3[a-1]! d3[p]!
  ·simp only[AVg]
   rw[AEM d3 a b p hp1 hp2 b3 s3]
   rcases hx:partitionEqual ltX d3 a b p with⟨mid,d4⟩
   obtain⟨hm1,hm2,hs4,hB4,hfin⟩:=round_eq AOv (partitionEqual_holds _) h0 hp1 hp2 b3 B3 hc hx
   refine⟨_,rfl,d4,mid,b,rfl,rfl,rfl,hl.1,hl.2,by omega,by omega,by rw[hs4,P3.1],by omega,hB4,fun R r1 r2 => ?_⟩
   obtain⟨q1,q2⟩:=hfin R r1 r2
   exact⟨permIn_trans _ _ _ a b P3 q1,q2⟩
  ·simp only[AU7]
   exact Ir hself hb hs hl P3 B3 hp1 hp2
 ·rw[AUp (by omega)]
  exact Ir hself hb hs hl P3 B3 hp1 hp2
theorem Lh(hself:BV (S:=S) self (b-a))(hab:a<b)(hb:b≤d.size)(hs:d.size<4294967296)(hl:0≤l∧l≤100)
  {d3:Array (EL S)} {p:Nat} (h:Int) (wb wp:Bool) (P3:PermIn a b d d3) (B3:Below ltX a b d3) (hp1:a≤p) (hp2:p<b) :
  ∃ o,(Zd S.z S.c) self (rep d3) (a:Int) (b:Int) (p:Int) h l wb wp=some o∧Gd d a b o:=by
 have b3:b≤d3.size:=by rw[P3.1];exact hb
 have s3:d3.size<4294967296:=by rw[P3.1];exact hs
 unfold Zd
 cases wb
 ·exact D0 hself hb hs hl _ _ P3 B3 hp1 hp2
 ·cases wp
  ·exact D0 hself hb hs hl _ _ P3 B3 hp1 hp2
  ·simp only[]
   cases ieq h 1
   ·exact D0 hself hb hs hl _ _ P3 B3 hp1 hp2
   ·simp only[]
    rw[Zm d3 a b hab b3 s3]
    obtain⟨q1,q2⟩:=partialInsertionSort_holds (lt:=ltX) AOv d3 a b hab b3 B3
    rcases hx:partialInsertionSort ltX d3 a b with⟨d4,fin⟩
    rw[hx]at q1 q2
    have P4:PermIn a b d d4:=permIn_trans _ _ _ a b P3 q1
    cases fin
    ·exact D0 hself hb hs hl _ _ P4 (B3.perm b3 q1) hp1 hp2
    ·exact⟨_,rfl,d4,rfl,P4,q2 rfl⟩
theorem Lg(hself:BV (S:=S) self (b-a))(hab:a+8≤b)(hb:b≤d.size)(hs:d.size<4294967296)(hl:0≤l∧l≤100)
  {d3:Array (EL S)} (wb wp:Bool) (P3:PermIn a b d d3) (B3:Below ltX a b d3) :
  ∃ o,(Zc S.z S.c) self (rep d3) (a:Int) (b:Int) l wb wp=some o∧Gd d a b o:=by
 have b3:b≤d3.size:=by rw[P3.1];exact hb
 have s3:d3.size<4294967296:=by rw[P3.1];exact hs
 rw[Zc]
 obtain⟨p,h,e,hp1,hp2⟩:=AHR d3 a b hab b3 s3
 simp only[e]
 cases ieq h 2
 ·exact Lh hself (by omega) hb hs hl h _ _ P3 B3 hp1 hp2
 ·simp only[APH d3 a b (by omega) b3 s3]
  have q1:=reverseRange_holds (α:=(EL S)) d3 a b (by omega) b3
  simp (disch:=omega) only[Af,BQ]
  exact Lh hself (by omega) hb hs hl 1 _ _ (permIn_trans _ _ _ a b P3 q1) (B3.perm b3 q1) (by omega) (by omega)
theorem Ng(hself:BV (S:=S) self (b-a))(hab:a≤b)(hb:b≤d.size)(hs:d.size<4294967296)(hl:0≤l∧l≤100)(wb wp:Bool)(B:Below ltX a b d):
  ∃ o,(Li S.z S.c) self ((rep d),(a:Int),(b:Int),l,wb,wp,())=some o∧Gd d a b o:=by
 rw[Li]
 simp (disch:=omega) only[BQ,Aw,EX]
 by_cases h12:b-a≤12
 ·rw[AUr (show((b-a:Nat):Int)≤12 by omega)]
  simp only[AQe d a b hab hb hs]
  obtain⟨q1,q2⟩:=insertionSort_holds (lt:=ltX) AOv d a b hab hb
  exact⟨_,rfl,_,rfl,q1,q2⟩
 ·rw[AUp (show ¬ ((b-a:Nat):Int)≤12 by omega)]
  simp only[]
  by_cases h0:l=0
  ·subst h0
   simp only[BEq.rfl,ANT d a b (by omega) hb hs]
   obtain⟨q1,q2⟩:=heapSort_holds (lt:=ltX) AOv d a b hab hb
   exact⟨_,rfl,_,rfl,q1,q2⟩
  ·rw[show(l==0)=false by simpa using h0]
   simp only[]
   cases wb
   ·obtain⟨d',e,q1⟩:=AJn d a b hab hb hs
    simp only[AVg,e]
    rw[Ah (by omega)]
    exact Lg hself (by omega) hb hs (by omega) _ _ q1 (B.perm hb q1)
   ·simp only[AU7]
    exact Lg hself (by omega) hb hs hl _ _ (permIn_refl d a b) B
end
theorem Is{self:(List α×Int×Int×Int×Unit)→Option ((List α×Unit))}{m:Nat}(hself:BV (S:=S) self m):∀ (k:Nat) (d:Array (EL S)) (a b:Nat) (l:Int) (wb wp:Bool) (n:Nat),b-a=k→k≤m→a≤b→b≤d.size→d.size<4294967296→0≤l→l≤100→Below ltX a b d→k<n →
  ∃ R:Array (EL S),AT ((Li S.z S.c) self) n ((rep d),(a:Int),(b:Int),l,wb,wp,())=some (.inl ((rep R),()))∧PermIn a b d R∧SortedIn ltX a b R:=by
 intro k
 induction k using Nat.strongRecOn with
 |_ k ih=>
 intro d a b l wb wp n hk hm hab hb hs hl1 hl2 B hn
 obtain⟨n,rfl⟩:∃ k,n=k+1:=⟨n-1,by omega⟩
 have hself':BV (S:=S) self (b-a):=fun d a' b' l h1 h2 h3 h4 h5 h6 h7=>hself d a' b' l h1 h2 h3 h4 h5 h6 (by omega)
 obtain⟨o,e,ho⟩:=Ng hself' hab hb hs ⟨hl1,hl2⟩ wb wp B
 rw[AT,e]
 match o,ho with
 |.inl (xs,x,y,l',wb',wp',_),ho=>
  obtain⟨e',i,j,rfl,rfl,rfl,g1,g2,g3,g4,g5,g6,g7,hfin⟩:=ho
  obtain⟨R,e2,r1,r2⟩:=ih (j-i) (by omega) e' i j l' wb' wp' n rfl (by omega) g3 g4 (by omega) g1 g2 g7 (by omega)
  exact⟨R,e2,hfin R r1 r2⟩
 |.inr (.inl (xs,_)),ho=>
  obtain⟨R,rfl,r1,r2⟩:=ho
  exact⟨R,rfl,r1,r2⟩
theorem Nh:∀ k:Nat,BV (S:=S) ((It S.z S.c) (k+1)) (2 ^ k):=by
 intro k
 have hmany:4294967296<many:=by simp only[many];omega
 induction k with
 |zero=>
  intro d a b l h1 h2 h3 h4 h5 h6 h7
  have:BV (S:=S) ((It S.z S.c) 0) 0:=fun _ _ _ _ _ _ _ _ _ _ h=>by omega
  obtain⟨R,e,r1,r2⟩:=Is this (b-a) d a b l true true many rfl (by omega) h1 h2 h3 h4 h5 h6 (by omega)
  refine⟨R,?_,r1,r2⟩
  rw[It,Ze]
  simp only[Ak,e]
 |succ k ih=>
  intro d a b l h1 h2 h3 h4 h5 h6 h7
  have hp:2 ^ (k+1)=2*2 ^ k:=by rw[Nat.pow_succ];omega
  obtain⟨R,e,r1,r2⟩:=Is ih (b-a) d a b l true true many rfl (by omega) h1 h2 h3 h4 h5 h6 (by omega)
  refine⟨R,?_,r1,r2⟩
  rw[It,Ze]
  simp only[Ak,e]
theorem R1{α:Type}(S:SP α)(xs:List α)(h:xs.length<4294967296)(hok:∀ x∈xs,S.ok x):∃ ys,(AOz S.z S.c) (xs,())=some (ys,())∧ys.Perm xs∧ys.Pairwise fun x y=>S.lt y x=false:=by
 obtain⟨d,rfl⟩:∃ d:Array (EL S),xs=rep d:=by
  refine⟨(xs.attach.map fun x=>⟨x.val,hok x.val x.property⟩).toArray,?_⟩
  simp only[rep,List.map_map]
  exact(List.attach_map_subtype_val xs).symm
 have hl:(rep d).length=d.size:=by simp[rep]
 rw[hl]at h
 rw[AOy,Qz]
 rw[ABK,u64_in (by omega)]
 obtain⟨v,e,hv,_⟩:=JS d.size h
 simp only[e]
 obtain⟨R,e2,r1,r2⟩:=Nh 99 d 0 d.size (v:Int) (by omega) (by omega) h (by omega) (by omega) (.inl rfl) (by
  have:2 ^ 99=633825300114114700748351602688:=by decide
  omega)
 have e3:(ASI S.z S.c) (rep d,(0:Int),(d.size:Int),(v:Int),())=some (rep R,()):=by rw[ASH];exact e2
 refine⟨rep R,by simp only[e3],?_,?_⟩
 ·obtain⟨hsz,_,hp⟩:=r1
  have e1:R.extract 0 d.size=R:=by rw[← hsz];exact Array.extract_size
  rw[e1,Array.extract_size]at hp
  exact hp.map _
 ·rw[rep,AV6,AVa]
  intro i j hi hj hij
  have hi':i<R.size:=by simpa using hi
  have hj':j<R.size:=by simpa using hj
  have:=r2 i j (AWx _) hij (by rw[← r1.1];omega)
  rw[getElem!_pos R j hj',getElem!_pos R i hi']at this
  simpa [ltX]using this
end Go.Pev.Pl.SG
end
section
namespace Go.Pev.Pl.SL
open Go.Sort
def ok(l:List Int):Prop:=l≠[]
def okz:List Int:=[0]
theorem TK:ok okz:=by simp[ok,okz]
def lt(x y:List Int):Bool:=ltInt (x.headD 0) (y.headD 0)
theorem swo:SWO lt:=⟨fun x=>swo_ltInt.irrefl _,fun x y z=>swo_ltInt.trans _ _ _,fun x y z=>swo_ltInt.ntrans _ _ _⟩
theorem ABS{x y:List Int}(hx:ok x)(hy:ok y):∃ c,A8 (x,y,())=some (c,())∧ilt c (0:Int)=lt x y:=by
 cases x with
 |nil=>exact absurd rfl hx
 |cons a x=>
  cases y with
  |nil=>exact absurd rfl hy
  |cons b y=>
   rw[ACB,Qr]
   have i1:idx (a::x) (0:Int)=some a:=by rw[idx_eq];rfl
   have i2:idx (b::y) (0:Int)=some b:=by rw[idx_eq];rfl
   simp only[i1,i2,JO,GX,Q9,Ny]
   simp only[EX,An,lt,List.headD_cons,ltInt]
   by_cases h:a<b
   ·simp[h]
   ·by_cases h2:b<a
    ·simp[h,h2]
    ·simp[h,h2]
noncomputable def S:SG.SP (List Int):=⟨([]:List (Int)),A8,ok,okz,TK,lt,swo,fun h1 h2=>ABS h1 h2⟩
theorem R1(xs:List (List Int))(h:xs.length<4294967296)(hok:∀ x∈xs,ok x):∃ ys,ACf (xs,())=some (ys,())∧ys.Perm xs∧ys.Pairwise fun x y=>lt y x=false:=SG.R1 S xs h hok
end Go.Pev.Pl.SL
end
end
section
section
namespace Go.Pev.Pl
open Tok
def CZ{α:Type}(P:Nat→Bool):Nat→List α→List α
 |_,[]=>[]
 |i,x::xs=>if P i then CZ P (i+1) xs else x::CZ P (i+1) xs
theorem AFa{α:Type}(P:Nat→Bool):∀ (xs:List α) (s:Nat),(∀ k,s≤k→P k=false)→CZ P s xs=xs:=by
 intro xs
 induction xs with
 |nil=>intro s _;rfl
 |cons x xs ih=>
  intro s h
  rw[CZ,h s (AU1 _),ih (s+1) fun k hk=>h k (by omega)]
  rfl
theorem AJM{α:Type}(P:Nat→Bool)(i:Nat):∀ (xs:List α) (s:Nat),s≤i→(∀ k,s≤k→P k=decide (k=i))→CZ P s xs=xs.eraseIdx (i-s):=by
 intro xs
 induction xs with
 |nil=>intro s _ _;rfl
 |cons x xs ih=>
  intro s hs h
  rw[CZ,h s (AU1 _)]
  by_cases e:s=i
  ·subst e
   rw[AFa P xs (s+1) fun k hk=>by rw[h k (by omega)];simp;omega]
   simp
  ·rw[ih (s+1) (by omega) fun k hk=>h k (by omega)]
   rw[AUp e,AUy (by simp),show i-s=(i-(s+1))+1 by omega,AWv]
theorem UW{α:Type}(P:Nat→Bool)(i j:Nat)(hij:i<j):∀ (xs:List α) (s:Nat),s≤i→(∀ k,s≤k→P k=decide (k=i∨k=j))→CZ P s xs=(xs.eraseIdx (j-s)).eraseIdx (i-s):=by
 intro xs
 induction xs with
 |nil=>intro s _ _;rfl
 |cons x xs ih=>
  intro s hs h
  rw[CZ,h s (AU1 _)]
  by_cases e:s=i
  ·subst e
   rw[AJM P j xs (s+1) (by omega) fun k hk=>by rw[h k (by omega)];exact AW8.2 ⟨fun q=>by omega,fun q=>.inr q⟩]
   rw[AUr (.inl rfl),AU4 rfl,show j-s=(j-(s+1))+1 by omega,AWv,AWq,List.eraseIdx_zero]
   rfl
  ·rw[ih (s+1) (by omega) fun k hk=>h k (by omega)]
   rw[AUp (by omega),AUy (by simp),show j-s=(j-(s+1))+1 by omega,AWv,show i-s=(i-(s+1))+1 by omega,AWv]
theorem AFb{α:Type}(P:Nat→Bool):∀ (xs:List α) (acc:List α) (k:Nat),(xs.foldl (fun(a:List α×Nat) x=>(if P a.2 then a.1 else a.1++[x],a.2+1)) (acc,k)).1=acc++CZ P k xs:=by
 intro xs
 induction xs with
 |nil=>intro acc k;simp[CZ]
 |cons x xs ih=>
  intro acc k
  rw[AVo,ih,CZ]
  cases P k<;>simp
theorem AJN{α:Type}(P:Nat→Bool):∀ (xs:List α) (k:Nat),(CZ P k xs).length≤xs.length∧∀ x∈CZ P k xs,x∈xs:=by
 intro xs
 induction xs with
 |nil=>intro k;simp[CZ]
 |cons x xs ih=>
  intro k
  obtain⟨h1,h2⟩:=ih (k+1)
  rw[CZ]
  split
  ·exact⟨by simp only[AU0];omega,fun y hy=>AVE _ (h2 y hy)⟩
  ·refine⟨by simp only[AU0];omega,fun y hy => ?_⟩
   rcases AUw.1 hy with rfl|hy
   ·simp
   ·exact AVE _ (h2 y hy)
theorem ALT(n:Int)(rings:List (List Int))(away:List Int)(come:List (List Int))(hlen:rings.length<1073741824)(ha:away.length<1073741824)(hc:come.length<1073741824)
  (hne:∀ l∈rings,l≠[]) (hce:∀ r∈come,plain r≠[]) :
  ∃ ys,ACL ((n,(rings,())),away,come,())=some (n,ys,())∧ys.Perm (CZ (fun k=>decide ((k:Int)∈away)) 0 rings++come.map plain)∧ys.Pairwise (fun a b=>¬ hd b<hd a):=by
 rw[ACK,Qs]
 have e:=EH (step:=Fz) (fun i (a:List (List Int)×Nat)=>(away,come,n,rings,(0:Int),a.1,rings,AQ rings,(i:Int),())) rings
  (fun x a=>.inl (if decide ((a.2:Int)∈away)then a.1 else a.1++[x],a.2+1)) (fun a=>.inl (come,n,rings,(0:Int),a.1,())) (fun i a=>a.2=i∧a.1.length≤i) (by omega)
  (fun i x a hi hx ⟨h1,h2⟩=>by
   refine⟨fun m' h' => ?_,fun r h'=>by cases h'⟩
   cases h'
   subst h1
   rw[Fz,AY,AR,AUr hi]
   simp only[Az hx,HK away _ (show away.length<9223372036854775808 by omega)]
   rw[AK (by omega),DO (by simp only[AY,AU0,AVU];omega)]
   by_cases h:(a.2:Int)∈away
   ·simp only[h,AU2,AU7,AVM]
    exact⟨by trivial,by trivial,by omega⟩
   ·simp only[h,AVA,AVg]
    exact⟨by trivial,by trivial,by simp;omega⟩)
  (fun a _=>by rw[Fz,AY,AR,AUp (by omega)]) ([],0) ⟨rfl,by simp⟩
 have e':AZ Fz many (away,come,n,rings,(0:Int),[],rings,AQ rings,(0:Int),())=_:=e
 rw[e',Bu]
 have hdf:(rings.foldl (fun(a:List (List Int)×Nat) x=>(if decide ((a.2:Int)∈away)then a.1 else a.1++[x],a.2+1)) ([],0)).1=CZ (fun k=>decide ((k:Int)∈away)) 0 rings:=by
  have:=AFb (fun k=>decide ((k:Int)∈away)) rings [] 0
  rw[AVc]at this
  exact this
 simp only[hdf]
 obtain⟨g1,g2⟩:=AJN (fun k=>decide ((k:Int)∈away)) rings 0
 generalize CZ (fun k=>decide ((k:Int)∈away)) 0 rings=rest at *
 have f:=EH (step:=Fy) (fun i (a:List (List Int))=>(n,rings,(0:Int),a,come,AQ come,(i:Int),())) come
  (fun x a=>.inl (a++[plain x])) (fun a=>.inl (n,rings,(0:Int),a,())) (fun i a=>a.length=rest.length+i) (by omega)
  (fun i x a hi hx h1=>by
   refine⟨fun m' h' => ?_,fun r h'=>by cases h'⟩
   cases h'
   rw[Fy,AY,AR,AUr hi]
   simp only[Az hx,AGr]
   rw[AK (by omega),DO (by simp only[AY,AU0,AVU];omega)]
   exact⟨rfl,by simp;omega⟩)
  (fun a _=>by rw[Fy,AY,AR,AUp (by omega)]) rest rfl
 have f':AZ Fy many (n,rings,(0:Int),rest,come,AQ come,(0:Int),())=_:=f
 rw[f',Bu]
 have hfold:∀ (l acc:List (List Int)),l.foldl (fun a x=>a++[plain x]) acc=acc++l.map plain:=by
  intro l
  induction l with
  |nil=>intro acc;simp
  |cons x l ih=>intro acc;rw[AVo,ih];simp
 simp only[hfold]
 obtain⟨ys,y1,y2,y3⟩:=SL.R1 (rest++come.map plain) (by simp;omega) (fun x hx=>by
  rcases AUt.1 hx with h|h
  ·exact hne x (g2 x h)
  ·obtain⟨r,hr,rfl⟩:=AVD.1 h
   exact hce r hr)
 refine⟨ys,by simp only[y1],y2,y3.imp fun {a b} h => ?_⟩
 simp only[SL.lt,Go.Sort.ltInt,AVk]at h
 exact h
def AL8(rest:List (List Int))(p:List Int):List (List Int):=rest.take (rest.findIdx fun x => !decide (hd x<hd p))++p::rest.drop (rest.findIdx fun x => !decide (hd x<hd p))
theorem AL7(rest:List (List Int))(p:List Int):(AL8 rest p).Perm (p::rest):=by
 rw[AL8]
 refine List.perm_middle.trans ?_
 rw[AVx]
theorem AR9{rest:List (List Int)}{p:List Int}(h:rest.Pairwise (fun a b=>hd a<hd b))(hne:∀ x∈rest,hd x≠hd p):(AL8 rest p).Pairwise (fun a b=>hd a<hd b):=by
 rw[AL8]
 have hlt:∀ x∈rest.take (rest.findIdx fun x => !decide (hd x<hd p)),hd x<hd p:=by
  intro x hx
  obtain⟨j,hj,e⟩:=List.mem_take_iff_getElem.1 hx
  have:=List.not_of_lt_findIdx (p:=fun x => !decide (hd x<hd p)) (xs:=rest) (i:=j) (by omega)
  rw[e]at this
  simpa using this
 have hgt:∀ x∈rest.drop (rest.findIdx fun x => !decide (hd x<hd p)),hd p<hd x:=by
  intro x hx
  by_cases hk:(rest.findIdx fun x => !decide (hd x<hd p))<rest.length
  ·have h0:=AXC (p:=fun x => !decide (hd x<hd p)) (xs:=rest) (w:=hk)
   rw[AVh hk]at hx
   have h1:¬ hd rest[rest.findIdx fun x => !decide (hd x<hd p)]<hd p:=by simpa using h0
   have h2:=hne _ (AWe hk)
   rcases AUw.1 hx with rfl|hx
   ·omega
   ·have hpw:(rest.drop (rest.findIdx fun x => !decide (hd x<hd p))).Pairwise (fun a b=>hd a<hd b):=h.sublist (List.drop_sublist _ _)
    rw[AVh hk,AVd]at hpw
    have:=hpw.1 x hx
    omega
  ·rw[AV3 (by omega)]at hx
   cases hx
 rw[AXB,AVd]
 refine⟨h.sublist (List.take_sublist _ _),⟨hgt,h.sublist (List.drop_sublist _ _)⟩,fun a ha b hb => ?_⟩
 rcases AUw.1 hb with rfl|hb
 ·exact hlt a ha
 ·have:=hlt a ha
  have:=hgt b hb
  omega
end Go.Pev.Pl
end
section
namespace Go.Pev.Pl
open Tok
theorem ABo{n u v:Int}(h:okT n (.arc u v)):n≤KG n u v:=by rw[Gc h];exact(RM h.1 h.2.1).1
def Bi(n:Int)(A B:List Int)(u v:Int):List Int:=u::KG n u v::(Bo B v++KG n v u::(Bo A u).tail)
theorem OG{n u v:Int}{A B:List Int}(hA:TI n A)(hB:TI n B)(hu:u∈A)(hv:v∈B)(iu:In n u)(iv:In n v)(hd:Dis n A B):
  TI n (Bi n A B u v)∧Bo A u=u::(Bo A u).tail∧(∀ t,t<n→(t∈Bi n A B u v↔t∈A∨t∈B))∧u≠v∧okT n (.arc u v):=by
 obtain⟨a,a1,a2,a3⟩:=AF6 hA (t:=.ver u) iu hu
 obtain⟨b,b1,b2,b3⟩:=AF6 hB (t:=.ver v) iv hv
 have a1':Bo A u=(Tok.ver u::a).map (Eh n):=a1
 have b1':Bo B v=(Tok.ver v::b).map (Eh n):=b1
 have huv:u≠v:=by rintro rfl;exact hd u hu iu.2.2.2 hv
 have ho:okT n (.arc u v):=⟨iu,iv,huv⟩
 have pA:=(Cw hu).perm
 have pB:=(Cw hv).perm
 have ht:Bo A u=u::(Bo A u).tail:=by rw[a1'];rfl
 have hall:Bi n A B u v=(Tok.ver u :: .arc u v::(.ver v::b ++ .arc v u::a)).map (Eh n):=by
  rw[Bi,a1',b1',Gc ho,Gc (I1 ho)]
  simp[Eh]
 refine⟨⟨_,hall,fun t ht => ?_,T.join a2 b2 fun x hx hx2 => ?_⟩,ht,fun t ht2 => ?_,huv,ho⟩
 ·rcases AUw.1 ht with rfl|ht
  ·exact iu
  ·rcases AUw.1 ht with rfl|ht
   ·exact ho
   ·rcases AUt.1 ht with ht|ht
    ·exact b3 t ht
    ·rcases AUw.1 ht with rfl|ht
     ·exact I1 ho
     ·exact a3 t (AVE _ ht)
 ·have ix:=a3 _ hx
  have x1:x∈A:=pA.mem_iff.2 (by rw[a1'];exact AVD.2 ⟨_,hx,rfl⟩)
  have x2:x∈B:=pB.mem_iff.2 (by rw[b1'];exact AVD.2 ⟨_,hx2,rfl⟩)
  exact hd x x1 ix.2.2.2 x2
 ·have g1:=ABo ho
  have g2:=ABo (I1 ho)
  have e1:t∈A↔t=u∨t∈(Bo A u).tail:=by rw[pA.mem_iff,ht,AUw,AWY]
  rw[Bi,AUw,AUw,AUt,AUw,e1,← pB.mem_iff]
  constructor
  ·rintro (h|h|h|h|h)
   ·exact .inl (.inl h)
   ·omega
   ·exact .inr h
   ·omega
   ·exact .inl (.inr h)
  ·rintro ((h|h)|h)
   ·exact .inl h
   ·exact .inr (.inr (.inr (.inr h)))
   ·exact .inr (.inr (.inl h))
theorem MZ{n:Int}{a b:List (List Int)}(h:a.Perm b)(ha:a.Pairwise (Dis n)):b.Pairwise (Dis n):=(h.pairwise_iff fun {_ _} hh=>hh.symm).1 ha
theorem ATU{n:Int}{rings rest zs:List (List Int)}{A B p:List Int}(h:FR n rings)(hp:rings.Perm (A::B::rest))(hg:RG n p)(hm:∀ t,t<n→(t∈p↔t∈A∨t∈B))(hz:zs.Perm (p::rest))(hu:zs.Pairwise (fun a b=>hd a<hd b)):FR n zs:=by
 have hd0:=MZ hp h.dis
 rw[AVd,AVd]at hd0
 obtain⟨h1,h2,h3⟩:=hd0
 refine⟨h.sz,fun l hl => ?_,hu,MZ hz.symm ?_,fun v hv => ?_⟩
 ·rcases AUw.1 (hz.mem_iff.1 hl)with rfl|hl
  ·exact hg
  ·exact h.rg l (hp.mem_iff.2 (by simp[hl]))
 ·rw[AVd]
  refine⟨fun r hr t ht htn => ?_,h3⟩
  rcases(hm t htn).1 ht with g|g
  ·exact h1 r (by simp[hr]) t g htn
  ·exact h2 r hr t g htn
 ·obtain⟨l,hl,hvl⟩:=h.cov v hv
  have:=hp.mem_iff.1 hl
  simp only[AUw]at this
  rcases this with rfl|rfl|g
  ·exact⟨p,hz.mem_iff.2 (by simp),(hm v hv.2.2.2).2 (.inl hvl)⟩
  ·exact⟨p,hz.mem_iff.2 (by simp),(hm v hv.2.2.2).2 (.inr hvl)⟩
  ·exact⟨l,hz.mem_iff.2 (by simp[g]),hvl⟩
theorem YB(n:Int)(rings:List (List Int))(u v:Int)(hD:Dom rings):asked ((n,(rings,())),u,v,())=some (if RF n rings then if In n u∧In n v then 0 else 10 else 1,()):=by
 rw[AF1,RO]
 simp only[Rl n rings hD.1 hD.2,Yu]
 by_cases h:RF n rings
 ·by_cases h1:In n u
  ·by_cases h2:In n v<;>simp[h,h1,h2]
  ·simp[h,h1]
 ·simp[h]
theorem ASc{n:Int}{rings:List (List Int)}{u v:Int}{i j:Nat}{A B:List Int}(h:FR n rings)(iu:In n u)(iv:In n v)(hi:rings[i]? = some A)(hj:rings[j]? = some B)(hu:u∈A)(hv:v∈B)(hij:i≠j):
  ∃ zs rest,Rx ((n,(rings,())),u,v,())=some (n,zs,0,())∧FR n zs∧rings.Perm (A::B::rest)∧zs.Perm (plain (Bi n A B u v)::rest)∧Dis n A B:=by
 have hD:=h.dom
 have hRF:=ABs.2 h
 have rA:=h.rg A (AU9 hi)
 have rB:=h.rg B (AU9 hj)
 have hil:=(AVO.1 hi).1
 have hjl:=(AVO.1 hj).1
 have pu:plc rings u=(i:Int):=h.APR hi iu.2.2.2 hu
 have pv:plc rings v=(j:Int):=h.APR hj iv.2.2.2 hv
 have hperm:rings.Perm (A::B::(rings.eraseIdx (max i j)).eraseIdx (min i j)):=by
  rcases Nat.lt_or_gt_of_ne hij with g|g
  ·rw[AXR (by omega),AV7 (by omega)]
   exact P6 g hi hj
  ·rw[Nat.max_eq_left (by omega),Nat.min_eq_right (by omega)]
   exact(P6 g hj hi).trans (List.Perm.swap _ _ _)
 have hdis:Dis n A B:=by
  have:=MZ hperm h.dis
  rw[AVd]at this
  exact this.1 B (by simp)
 obtain⟨l1,l2,l3,huv,ho⟩:=OG rA.2.2.2 rB.2.2.2 hu hv iu iv hdis
 obtain⟨hRG,hrot⟩:=AF8 l1
 have hall:Bi n A B u v=u::KG n u v::(Bo B v++KG n v u::(Bo A u).tail):=rfl
 have lA:(Bo A u).length≤1000:=by rw[← (Cw hu).perm.length_eq];exact rA.1.1
 have lB:(Bo B v).length≤1000:=by rw[← (Cw hv).perm.length_eq];exact rB.1.1
 have hsub:((rings.eraseIdx (max i j)).eraseIdx (min i j)).Sublist rings:=(List.eraseIdx_sublist _ _).trans (List.eraseIdx_sublist _ _)
 have hdrop:CZ (fun k=>decide ((k:Int)∈[(i:Int),(j:Int)])) 0 rings=(rings.eraseIdx (max i j)).eraseIdx (min i j):=by
  rcases Nat.lt_or_gt_of_ne hij with g|g
  ·rw[AXR (by omega),AV7 (by omega)]
   exact UW _ i j g rings 0 (by omega) fun k _=>AW8.2 (by simp only[AUw,AWt,or_false];omega)
  ·rw[Nat.max_eq_left (by omega),Nat.min_eq_right (by omega)]
   exact UW _ j i g rings 0 (by omega) fun k _=>AW8.2 (by simp only[AUw,AWt,or_false];omega)
 have hrl:((rings.eraseIdx (max i j)).eraseIdx (min i j)).length≤rings.length:=hsub.length_le
 generalize (rings.eraseIdx (max i j)).eraseIdx (min i j)=rest at *
 have hupr:rest.Pairwise (fun a b=>hd a<hd b):=h.up.sublist hsub
 have hner:∀ l∈rest,l≠[]:=fun l hl=>(h.rg l (hsub.subset hl)).2.1
 have hdd:=MZ hperm h.dis
 rw[AVd,AVd]at hdd
 have hheads:∀ x∈rest,hd x≠hd (plain (Bi n A B u v)):=by
  intro x hx e
  have g1:=Ms hRG
  have g2:=(l3 _ g1.2.2.2).1 (hrot.perm.mem_iff.2 (AA1 hRG.2.1))
  have g3:hd (plain (Bi n A B u v))∈x:=e▸AA1 (hner x hx)
  rcases g2 with g|g
  ·exact hdd.1 x (by simp[hx]) _ g g1.2.2.2 g3
  ·exact hdd.2.1 x hx _ g g1.2.2.2 g3
 have hup:=AR9 hupr hheads
 have hpz:=AL7 rest (plain (Bi n A B u v))
 refine⟨AL8 rest (plain (Bi n A B u v)),rest,?_,ATU h hperm hRG (fun t ht=>by rw[← hrot.perm.mem_iff];exact l3 t ht) hpz hup,hperm,hpz,hdis⟩
 ·obtain⟨ys,y1,y2,y3⟩:=ALT n rings [(i:Int),(j:Int)] [Bi n A B u v] hD.1 (by simp) (by simp) (fun l hl=>(h.rg l hl).2.1) (by simp;exact hRG.2.1)
  have hys:ys=AL8 rest (plain (Bi n A B u v)):=by
   refine ACe hup (y2.trans ?_) y3
   rw[hdrop]
   exact(AWh (l₁:=rest) (l₂:=[plain (Bi n A B u v)])).trans hpz.symm
  rw[hys]at y1
  rw[Rw,LX]
  have s1:HC (Bo A u) (0:Int) (1:Int)=some [u]:=by
   have:=AGZ (xs:=Bo A u) (l:=0) (h:=1) (by omega) (by rw[l2];simp)
   rw[l2]at this ⊢
   exact this
  have s2:HC (Bo A u) (1:Int) (AQ (Bo A u))=some (Bo A u).tail:=by
   have:=ACd (xs:=Bo A u) (l:=1) (by rw[l2];simp)
   rw[AXD]at this
   exact this
  have d1:FQ 0 (AF (AQ [u])) (Bo A u)=[u]:=by rw[l2];rfl
  have d2:FQ 1 (AF (AQ (Bo A u).tail)) (Bo A u)=(Bo A u).tail:=by
   rw[FQ,AY,ARH,AXD,AWs]
  have hcat:IB ([[u],[KG n u v],Bo B v,[KG n v u],(Bo A u).tail],())=some (Bi n A B u v,()):=by
   rw[QA _ (by simp) (by simp;omega)]
   simp[Bi]
  have ne:((i:Int))≠(j:Int):=by omega
  simp only[YB n rings u v hD,hRF,iu,iv,and_self,AVM,BS,Rq n rings _ hD.1 (fun l hl=>(hD.2 l hl).1),pu,pv,ne,AU2,AVA,AU7,Az hi,Az hj,ALz,AA9,rA.1,rB.1,hu,hv,s1,s2,AOt,d1,d2,hcat,y1]
theorem AIZ{n:Int}{rings:List (List Int)}{u v:Int}(h:FR n rings)(iu:In n u)(iv:In n v)(hp:plc rings u=plc rings v):
  Rx ((n,(rings,())),u,v,())=some (n,rings,5,()):=by
 have hD:=h.dom
 have hRF:=ABs.2 h
 rw[Rw,LX]
 simp only[YB n rings u v hD,hRF,iu,iv,and_self,AVM,BS,Rq n rings _ hD.1 (fun l hl=>(hD.2 l hl).1),hp,AU2,AU7]
end Go.Pev.Pl
end
section
namespace Go.Pev.Pl
open Tok
def LB(rings:List (List Int))(a b:Int):Prop:=∃ A∈rings,a∈A∧b∈A
structure FC(n:Int)(rings:List (List Int))(l:List Edge):Prop where
 fr:FR n rings
 sam:∀ a b,In n a→In n b→(LB rings a b↔Con l a b)
 arcs:∀ A∈rings,∀ u v,okT n (.arc u v)→KG n u v∈A→∃ e∈l,(e.1=u∧e.2.1=v)∨(e.1=v∧e.2.1=u)
theorem FR.AO7{n:Int}{rings:List (List Int)}(h:FR n rings){a b:Int}(ia:In n a)(ib:In n b):plc rings a=plc rings b↔LB rings a b:=by
 obtain⟨i,A,pa,hi,ha,_⟩:=SU (h.cov a ia)
 obtain⟨j,B,pb,hj,hb,_⟩:=SU (h.cov b ib)
 rw[pa,pb]
 constructor
 ·intro e
  have:i=j:=by omega
  subst this
  rw[hi]at hj
  cases hj
  exact⟨A,AU9 hi,ha,hb⟩
 ·rintro⟨K,hK,h1,h2⟩
  obtain⟨k,hk⟩:∃ k:Nat,rings[k]? = some K:=by
   obtain⟨k,hk,rfl⟩:=AVm hK
   exact⟨k,AUx hk⟩
  rw[h.uniq hi hk ia.2.2.2 ha h1,h.uniq hj hk ib.2.2.2 hb h2]
theorem FR.one{n:Int}{rings:List (List Int)}(h:FR n rings){A B:List Int}(hA:A∈rings)(hB:B∈rings){v:Int}(iv:v<n)(h1:v∈A)(h2:v∈B):A=B:=by
 obtain⟨i,hi,rfl⟩:=AVm hA
 obtain⟨j,hj,rfl⟩:=AVm hB
 have:=h.uniq (AUx hi) (AUx hj) iv h1 h2
 subst this
 rfl
theorem LB.perm{a b:List (List Int)}(h:a.Perm b)(x y:Int):LB a x y↔LB b x y:=by
 constructor
 ·rintro⟨A,hA,h1⟩;exact⟨A,h.mem_iff.1 hA,h1⟩
 ·rintro⟨A,hA,h1⟩;exact⟨A,h.mem_iff.2 hA,h1⟩
theorem AMz{n u v x y:Int}{A B:List Int}(hA:TI n A)(hB:TI n B)(hu:u∈A)(hv:v∈B)(iu:In n u)(iv:In n v)(hd:Dis n A B)(ho:okT n (.arc x y))(h:KG n x y∈Bi n A B u v):KG n x y∈A∨KG n x y∈B∨(x=u∧y=v)∨(x=v∧y=u):=by
 obtain⟨_,l2,_,huv,ho2⟩:=OG hA hB hu hv iu iv hd
 have pA:=(Cw hu).perm
 have pB:=(Cw hv).perm
 have g:=ABo ho
 rw[Bi,AUw,AUw,AUt,AUw]at h
 rcases h with h|h|h|h|h
 ·have:=iu.2.2.2;omega
 ·rw[Gc ho,Gc ho2]at h
  have:=MX ho ho2 h
  cases this
  exact .inr (.inr (.inl ⟨rfl,rfl⟩))
 ·exact .inr (.inl (pB.mem_iff.2 h))
 ·rw[Gc ho,Gc (I1 ho2)]at h
  have:=MX ho (I1 ho2) h
  cases this
  exact .inr (.inr (.inr ⟨rfl,rfl⟩))
 ·refine .inl (pA.mem_iff.2 ?_)
  rw[l2]
  exact AVE _ h
theorem ATV{n:Int}{rings:List (List Int)}{l:List Edge}{e:Edge}(h:FC n rings l)(iu:In n e.1)(iv:In n e.2.1):
  ∃ zs q,Rx ((n,(rings,())),e.1,e.2.1,())=some (n,zs,q,())∧FC n zs (l++[e])∧(q=0∧zs.length+1=rings.length∨q=5∧zs=rings):=by
 have hF:=h.fr
 obtain⟨i,A,pu,hi,hu,_⟩:=SU (hF.cov _ iu)
 obtain⟨j,B,pv,hj,hv,_⟩:=SU (hF.cov _ iv)
 have mA:=AU9 hi
 have mB:=AU9 hj
 by_cases hij:i=j
 ·have hpe:plc rings e.1=plc rings e.2.1:=by rw[pu,pv,hij]
  refine⟨rings,5,AIZ hF iu iv hpe,⟨hF,fun a b ia ib => ?_,fun A hA u v ho hm => ?_⟩,.inr ⟨rfl,rfl⟩⟩
  ·rw[h.sam a b ia ib,Con.snoc]
   have hc:Con l e.1 e.2.1:=(h.sam _ _ iu iv).1 ((hF.AO7 iu iv).1 hpe)
   constructor
   ·exact .inl
   ·rintro (g|⟨g1,g2⟩|⟨g1,g2⟩)
    ·exact g
    ·exact g1.trans (hc.trans g2)
    ·exact g1.trans (hc.symm.trans g2)
  ·obtain⟨e',h1,h2⟩:=h.arcs A hA u v ho hm
   exact⟨e',by simp[h1],h2⟩
 ·obtain⟨zs,rest,q1,q3,q4,q5,q6⟩:=ASc hF iu iv hi hj hu hv hij
  have gA:=hF.rg A mA
  have gB:=hF.rg B mB
  obtain⟨l1,l2,l3,huv,ho⟩:=OG gA.2.2.2 gB.2.2.2 hu hv iu iv q6
  obtain⟨hRG,hrot⟩:=AF8 l1
  have len1:=q4.length_eq
  have len2:=q5.length_eq
  simp only[AU0]at len1 len2
  refine⟨zs,0,q1,⟨q3,fun a b ia ib => ?_,fun K hK x y hxy hm => ?_⟩,.inl ⟨rfl,by omega⟩⟩
  ·rw[LB.perm q5,Con.snoc,← h.sam a b ia ib,← h.sam a _ ia iu,← h.sam _ b iv ib,← h.sam a _ ia iv,← h.sam _ b iu ib]
   have pmem:∀ x,In n x→(x∈plain (Bi n A B e.1 e.2.1)↔x∈A∨x∈B):=fun x ix=>by rw[← hrot.perm.mem_iff];exact l3 x ix.2.2.2
   have sA:∀ x,In n x→(LB rings x e.1↔x∈A):=fun x ix=>by
    constructor
    ·rintro⟨K,hK,h1,h2⟩
     rw[hF.one mA hK iu.2.2.2 hu h2];exact h1
    ·intro hx;exact⟨A,mA,hx,hu⟩
   have sB:∀ x,In n x→(LB rings x e.2.1↔x∈B):=fun x ix=>by
    constructor
    ·rintro⟨K,hK,h1,h2⟩
     rw[hF.one mB hK iv.2.2.2 hv h2];exact h1
    ·intro hx;exact⟨B,mB,hx,hv⟩
   have sy:∀ x y,LB rings x y↔LB rings y x:=fun x y=>⟨fun ⟨K,a,b,c⟩=>⟨K,a,c,b⟩,fun ⟨K,a,b,c⟩=>⟨K,a,c,b⟩⟩
   rw[sA a ia,sB a ia,sy e.2.1 b,sB b ib,sy e.1 b,sA b ib]
   have hs:LB rings a b↔(a∈A∧b∈A)∨(a∈B∧b∈B)∨∃ K∈rest,a∈K∧b∈K:=by
    rw[LB.perm q4]
    simp only[LB,AUw,exists_eq_or_imp]
   have hz:LB (plain (Bi n A B e.1 e.2.1)::rest) a b↔((a∈A∨a∈B)∧(b∈A∨b∈B))∨∃ K∈rest,a∈K∧b∈K:=by
    simp only[LB,AUw,exists_eq_or_imp,pmem a ia,pmem b ib]
   rw[hs,hz]
   constructor
   ·rintro (⟨h1|h1,h2|h2⟩|h)
    ·exact .inl (.inl ⟨h1,h2⟩)
    ·exact .inr (.inl ⟨h1,h2⟩)
    ·exact .inr (.inr ⟨h1,h2⟩)
    ·exact .inl (.inr (.inl ⟨h1,h2⟩))
    ·exact .inl (.inr (.inr h))
   ·rintro ((⟨h1,h2⟩|⟨h1,h2⟩|h)|⟨h1,h2⟩|⟨h1,h2⟩)
    ·exact .inl ⟨.inl h1,.inl h2⟩
    ·exact .inl ⟨.inr h1,.inr h2⟩
    ·exact .inr h
    ·exact .inl ⟨.inl h1,.inr h2⟩
    ·exact .inl ⟨.inr h1,.inl h2⟩
  ·have old:∀ K∈rings,KG n x y∈K→∃ e'∈l++[e],(e'.1=x∧e'.2.1=y)∨(e'.1=y∧e'.2.1=x):=fun K hK hm=>by
    obtain⟨e',h1,h2⟩:=h.arcs K hK x y hxy hm
    exact⟨e',by simp[h1],h2⟩
   rcases AUw.1 (q5.mem_iff.1 hK)with rfl|hK
   ·rcases AMz gA.2.2.2 gB.2.2.2 hu hv iu iv q6 hxy (hrot.perm.mem_iff.2 hm)with g|g|⟨g1,g2⟩|⟨g1,g2⟩
    ·exact old A mA g
    ·exact old B mB g
    ·exact⟨e,by simp,.inl ⟨g1.symm,g2.symm⟩⟩
    ·exact⟨e,by simp,.inr ⟨g2.symm,g1.symm⟩⟩
   ·exact old K (q4.mem_iff.2 (by simp[hK])) hm
theorem AJy{N:Nat}(h1:1≤N)(h2:N≤64):FC (N:Int) (Bs N) []:=by
 have hS:∀ A∈Bs N,∃ k:Nat,k<N∧A=[(k:Int)]:=fun A hA=>by
  simp only[Bs,AVD,AWE]at hA
  obtain⟨k,hk,rfl⟩:=hA
  exact⟨k,hk,rfl⟩
 have key:∀ k,k<N→In (N:Int) (k:Int):=fun k hk=>⟨by omega,by omega,by omega,by omega⟩
 refine⟨⟨⟨by omega,by omega⟩,fun l hl => ?_,?_,?_,fun v hv => ?_⟩,fun a b ia ib => ?_,fun A hA u v ho hm => ?_⟩
 ·obtain⟨k,hk,rfl⟩:=hS l hl
  refine⟨⟨by simp,fun x hx => ?_,by simp⟩,by simp,rfl,(AUN (N:Int) k).2 (key k hk)⟩
  simp only[AVL]at hx
  omega
 ·rw[Bs,AV6]
  exact List.pairwise_lt_range.imp fun h=>by simp only[hd,List.headD_cons];omega
 ·rw[Bs,AV6]
  exact List.pairwise_lt_range.imp fun {a b} h t ht _ ht2=>by
   simp only[AVL]at ht ht2
   omega
 ·obtain⟨k,rfl⟩:=AUz hv.2.2.1
  have:=hv.2.2.2
  exact⟨[(k:Int)],by simp only[Bs,AVD,AWE];exact⟨k,by omega,rfl⟩,by simp⟩
 ·constructor
  ·rintro⟨A,hA,h1,h2⟩
   obtain⟨k,_,rfl⟩:=hS A hA
   simp only[AVL]at h1 h2
   rw[h1,h2]
   exact .refl _
  ·intro hc
   have:=hc.nil
   subst this
   obtain⟨k,rfl⟩:=AUz ia.2.2.1
   have:=ia.2.2.2
   exact⟨[(k:Int)],by simp only[Bs,AVD,AWE];exact⟨k,by omega,rfl⟩,by simp,by simp⟩
 ·obtain⟨k,hk,rfl⟩:=hS A hA
  simp only[AVL]at hm
  have:=ABo ho
  omega
theorem AFW(l:List Edge)(hs:l.length<1073741824):ends (l,())=some (l.flatMap fun e=>[e.1,e.2.1],()):=by
 rw[AK9,ABI]
 have e:=EH (step:=H8) (fun i (a:List Int)=>(a,l,AQ l,(i:Int),())) l (fun x a=>.inl (a++[x.1,x.2.1])) (fun a=>.inl (a,())) (fun i a=>a.length=2*i) (by omega)
  (fun i x a hi hx h1=>by
   refine⟨fun m' h' => ?_,fun r h'=>by cases h'⟩
   cases h'
   rw[H8,AY,AR,AUr hi]
   simp only[Az hx]
   rw[AK (by omega),DO (by simp only[AY,AU0,AVU];omega)]
   exact⟨rfl,by simp;omega⟩)
  (fun a _=>by rw[H8,AY,AR,AUp (by omega)]) [] rfl
 have e':AZ H8 many ([],l,AQ l,(0:Int),())=_:=e
 rw[e',Bu]
 have hf:∀ (xs:List Edge) (acc:List Int),xs.foldl (fun a x=>a++[x.1,x.2.1]) acc=acc++xs.flatMap fun e=>[e.1,e.2.1]:=by
  intro xs
  induction xs with
  |nil=>intro acc;simp
  |cons x xs ih=>intro acc;rw[AVo,ih,AV5];simp
 rw[hf]
 rfl
theorem ARE(n:Int)(l:List Edge):((l.flatMap fun e=>[e.1,e.2.1]).all fun v=>decide (In n v))=l.all fun e=>decide (In n e.1∧In n e.2.1):=by
 induction l with
 |nil=>rfl
 |cons e l ih=>
  rw[AV5,List.all_append,List.all_cons,ih]
  simp
theorem ARD(l:List Edge):(l.flatMap fun e=>[e.1,e.2.1]).length=2*l.length:=by
 induction l with
 |nil=>rfl
 |cons e l ih=>rw[AV5,AU6,ih];simp;omega
theorem AIY{n:Int}(l:List Edge)(hs:l.length<1073741824)(ha:∀ e∈l,In n e.1∧In n e.2.1):
  ∀ (m i cnt:Nat) (rings:List (List Int)) (taken:List Bool),i+m=l.length→taken.length=i→FC n rings (l.take i)→m<cnt →
  ∃ zs taken',AT C3 cnt (n,rings,(0:Int),taken,l,(l.length:Int),(i:Int),())=some (.inl (n,zs,(0:Int),taken',()))∧FC n zs l∧taken'.length=l.length:=by
 intro m
 induction m with
 |zero=>
  intro i cnt rings taken hi ht h hc
  obtain⟨cnt,rfl⟩:∃ c,cnt=c+1:=⟨cnt-1,by omega⟩
  rw[AVr (by omega)]at h
  refine⟨rings,taken,?_,h,by omega⟩
  rw[AT,C3,AR,AUp (by omega)]
 |succ m ih=>
  intro i cnt rings taken hi ht h hc
  obtain⟨cnt,rfl⟩:∃ c,cnt=c+1:=⟨cnt-1,by omega⟩
  have hi':i<l.length:=by omega
  have hx:l[i]? = some l[i]:=AUx hi'
  obtain⟨iu,iv⟩:=ha _ (AWe hi')
  obtain⟨zs,q,e1,e2,_⟩:=ATV h iu iv
  rw[AT,C3,AR,AUr hi']
  simp only[Az hx,e1]
  rw[AK (by omega),DO (by simp only[AY,AU0,AVU];omega)]
  rw[← AWW hi']at e2
  exact ih (i+1) cnt zs _ (by omega) (by simp[Og,ht]) e2 (by omega)
theorem AK4(k:Int)(l:List Edge)(hk:Sz k)(hs:l.length<1073741824):
  ((∀ e∈l,In k e.1∧In k e.2.1)∧∃ rings,fof (k,l,())=some ((k,(rings,())),0,())∧FC k rings l) ∨
  (¬ (∀ e∈l,In k e.1∧In k e.2.1)∧fof (k,l,())=some ((0,([],())),10,())):=by
 have hmany:9223372036854775808<many:=by simp only[many];omega
 rw[AQ5,AK5]
 have hm:RB k=(k,Bs k.toNat,0,()):=by rw[RB,AU4 hk]
 obtain⟨s1,s2⟩:=hk
 obtain⟨N,rfl⟩:=AUz (show 0≤k by omega)
 have h0:=AJy (N:=N) (by omega) (by omega)
 have hD:=h0.fr.dom
 have hRF:=ABs.2 h0.fr
 have hfl:=ARD l
 have hth:OZ (((N:Int),(Bs N,())),l.flatMap fun e=>[e.1,e.2.1],())=some (if ∀ e∈l,In (N:Int) e.1∧In (N:Int) e.2.1 then 0 else 10,()):=by
  rw[AI9 _ _ _ hD (by omega),ARE,AUM,AU4 hRF]
  by_cases ha:∀ e∈l,In (N:Int) e.1∧In (N:Int) e.2.1
  ·rw[AU4 ha,AU4 (AVC.2 fun e he=>AUr (ha e he))]
  ·rw[AUy ha,AUy]
   intro hc
   exact ha fun e he=>AWP (AVC.1 hc e he)
 simp only[ALf,hm,AVq,AEw,AU7]
 rw[Xy,MS,P9,IA]
 by_cases ha:∀ e∈l,In (N:Int) e.1∧In (N:Int) e.2.1
 ·refine .inl ⟨ha,?_⟩
  rw[AU4 ha]at hth
  obtain⟨zs,taken,e1,e2,_⟩:=AIY l hs ha l.length 0 many (Bs N) [] (by omega) rfl (by rw[List.take_zero];exact h0) (by omega)
  have e1':AT C3 many ((N:Int),Bs N,(0:Int),[],l,(l.length:Int),(0:Int),())=_:=e1
  simp only[AFW l hs,hth,AEw,AU7,Ak,AY,e1']
  exact⟨zs,rfl,e2⟩
 ·refine .inr ⟨ha,?_⟩
  rw[AUy ha]at hth
  simp only[AFW l hs,hth,BS]
  rfl
end Go.Pev.Pl
end
section
namespace Go.Pev.Pl
open Tok
def cl(out:List Int)(v:Int):Int:=out.getD v.toNat 0
def CI(N:Nat)(l:List Edge)(out:List Int):Prop:=out.length=N∧∀ k,k<N→0≤out.getD k 0∧out.getD k 0≤(k:Int)∧Con l (k:Int) (out.getD k 0)
theorem AKD:∀ (l:List Int) (k:Nat) (x:Int),k<l.length→(l.set k x).sum=l.sum-l.getD k 0+x:=by
 intro l
 induction l with
 |nil=>intro k x h;simp at h
 |cons y l ih=>
  intro k x h
  cases k with
  |zero=>simp;omega
  |succ k=>
   have:=ih k x (by simpa using h)
   simp only[List.set_cons_succ,AWk,List.getD_cons_succ,this]
   omega
theorem KT{N:Nat}{l:List Edge}{out:List Int}(h:CI N l out)(hN:N≤64):0≤out.sum∧out.sum≤4096:=by
 obtain⟨h1,h2⟩:=h
 have key:∀ (xs:List Int),(∀ x∈xs,0≤x∧x≤64)→0≤xs.sum∧xs.sum≤64*(xs.length:Int):=by
  intro xs
  induction xs with
  |nil=>intro _;simp
  |cons x xs ih=>
   intro h
   have h3:=ih fun y hy=>h y (AVE _ hy)
   have h4:=h x (by simp)
   simp only[AWk,AU0]
   omega
 have:=key out fun x hx=>by
  obtain⟨k,hk,rfl⟩:=AVm hx
  have h5:=h2 k (by omega)
  rw[AUv,AUx hk,AVb]at h5
  omega
 omega
theorem AUV(N:Nat)(l:List Edge)(hs:l.length<1073741824)(ha:∀ e∈l,In (N:Int) e.1∧In (N:Int) e.2.1):
  ∀ (m i cnt:Nat) (out:List Int) (more:Bool),i+m=l.length→CI N l out→m<cnt →
  ∃ out' more',AT Ca cnt ((N:Int),l,out,more,(i:Int),())=some (.inl ((N:Int),l,out',more',()))∧CI N l out' ∧
   ((more'=more∧out'=out∧∀ e∈l.drop i,cl out e.1=cl out e.2.1)∨(more'=true∧out'.sum<out.sum)):=by
 intro m
 induction m with
 |zero=>
  intro i cnt out more hi h hc
  obtain⟨cnt,rfl⟩:∃ c,cnt=c+1:=⟨cnt-1,by omega⟩
  refine⟨out,more,?_,h,.inl ⟨rfl,rfl,?_⟩⟩
  ·rw[AT,Ca,AY,AR,AUp (by omega)]
  ·rw[AV3 (by omega)]
   intro e he;cases he
 |succ m ih=>
  intro i cnt out more hi h hc
  obtain⟨cnt,rfl⟩:∃ c,cnt=c+1:=⟨cnt-1,by omega⟩
  have hi':i<l.length:=by omega
  have hx:l[i]? = some l[i]:=AUx hi'
  have hm:=AWe hi'
  have hdr:l.drop i=l[i]::l.drop (i+1):=AVh hi'
  rw[AT,Ca,AY,AR,AUr hi']
  simp only[Az hx]
  rw[hdr,AK (by omega)]
  generalize l[i]=e at *
  obtain⟨iu,iv⟩:=ha e hm
  have hcon:=Con.edge e hm
  obtain⟨eu,ev,eu'⟩:=e
  simp only at iu iv hcon ⊢
  obtain⟨u,rfl⟩:=AUz iu.2.2.1
  obtain⟨v,rfl⟩:=AUz iv.2.2.1
  have hu:u<N:=by have:=iu.2.2.2;omega
  have hv:v<N:=by have:=iv.2.2.2;omega
  have hul:u<out.length:=by rw[h.1];exact hu
  have hvl:v<out.length:=by rw[h.1];exact hv
  rw[An,AUp (by omega)]
  simp only[]
  rw[An,AUp (by omega)]
  simp only[]
  rw[Aw,AUp (by omega)]
  simp only[]
  rw[Aw,AUp (by omega)]
  simp only[IU (0:Int) hul,IU (0:Int) hvl,Oe,AUF,BS]
  by_cases hq:out.getD u 0=out.getD v 0
  ·rw[AUr hq]
   obtain⟨out',more',e1,e2,e3⟩:=ih (i+1) cnt out more (by omega) h (by omega)
   refine⟨out',more',e1,e2,?_⟩
   rcases e3 with⟨g1,g2,g3⟩|g
   ·refine .inl ⟨g1,g2,fun e' he' => ?_⟩
    rcases AUw.1 he' with rfl|he'
    ·simpa [cl]using hq
    ·exact g3 e' he'
   ·exact .inr g
  ·rw[AUp hq]
   have hne:u≠v:=by rintro rfl;exact hq rfl
   have hlow:EW (out.getD u 0) (out.getD v 0)=if out.getD v 0<out.getD u 0 then out.getD v 0 else out.getD u 0:=rfl
   generalize hlw:EW (out.getD u 0) (out.getD v 0)=low at *
   have hvl2:v<(out.set u low).length:=by simp;exact hvl
   simp only[IU (0:Int) hvl2]
   have cu:=h.2 u hu
   have cv:=h.2 v hv
   have hset:∀ k,k<N→((out.set u low).set v low).getD k 0=if k=u∨k=v then low else out.getD k 0:=by
    intro k hk
    have hkl:k<out.length:=by rw[h.1];exact hk
    by_cases k2:k=v
    ·subst k2
     simp[AUv,hkl]
    ·by_cases k1:k=u
     ·subst k1
      rw[AU4 (.inl rfl),AUv,AVe (AVW k2)]
      simp[hkl]
     ·rw[AUy (by omega),AUv,AVe (AVW k2),AVe (AVW k1),AUv]
   have hlc:0≤low∧low≤(u:Int)∧low≤(v:Int)∧Con l (u:Int) low:=by
    rw[hlow]
    split
    ·exact⟨cv.1,by omega,cv.2.1,hcon.trans cv.2.2⟩
    ·exact⟨cu.1,cu.2.1,by omega,cu.2.2⟩
   have hI:CI N l ((out.set u low).set v low):=by
    refine⟨by simp[h.1],fun k hk => ?_⟩
    rw[hset k hk]
    split
    ·rename_i hkk
     rcases hkk with rfl|rfl
     ·exact⟨hlc.1,hlc.2.1,hlc.2.2.2⟩
     ·exact⟨hlc.1,hlc.2.2.1,hcon.symm.trans hlc.2.2.2⟩
    ·exact h.2 k hk
   have hsum:((out.set u low).set v low).sum<out.sum:=by
    rw[AKD _ _ _ hvl2,AKD _ _ _ hul]
    have:(out.set u low).getD v 0=out.getD v 0:=by
     rw[AUv,AVe hne,← AUv]
    rw[this,hlow]
    split<;>omega
   obtain⟨out',more',e1,e2,e3⟩:=ih (i+1) cnt _ true (by omega) hI (by omega)
   refine⟨out',more',e1,e2,.inr ?_⟩
   rcases e3 with⟨g1,g2,_⟩|⟨g1,g2⟩
   ·exact⟨g1,by rw[g2];exact hsum⟩
   ·exact⟨g1,by omega⟩
theorem ATl(N:Nat)(hN:N≤64)(l:List Edge)(hs:l.length<1073741824)(ha:∀ e∈l,In (N:Int) e.1∧In (N:Int) e.2.1):
  ∀ (m cnt:Nat) (out:List Int),out.sum.toNat=m→CI N l out→m+1<cnt →
  ∃ out',AT DG cnt ((N:Int),l,out,true,())=some (.inl (out',()))∧CI N l out'∧∀ e∈l,cl out' e.1=cl out' e.2.1:=by
 have hmany:9223372036854775808<many:=by simp only[many];omega
 intro m
 induction m using Nat.strongRecOn with
 |_ m ih=>
 intro cnt out hm h hc
 obtain⟨cnt,rfl⟩:∃ c,cnt=c+1:=⟨cnt-1,by omega⟩
 rw[AT,DG]
 obtain⟨out',more',e1,e2,e3⟩:=AUV N l hs ha l.length 0 many out false (by omega) h (by omega)
 have e1':AT Ca many ((N:Int),l,out,false,(0:Int),())=_:=e1
 simp only[Ak,e1']
 rcases e3 with⟨g1,g2,g3⟩|⟨g1,g2⟩
 ·subst g1 g2
  obtain⟨cnt,rfl⟩:∃ c,cnt=c+1:=⟨cnt-1,by omega⟩
  rw[AT,DG]
  exact⟨_,rfl,e2,by simpa using g3⟩
 ·subst g1
  have b1:=KT h hN
  have b2:=KT e2 hN
  exact ih out'.sum.toNat (by omega) cnt out' rfl e2 (by omega)
structure PK(n:Int)(l:List Edge)(out:List Int):Prop where
 len:(out.length:Int)=n
 same:∀ a b,In n a→In n b→(cl out a=cl out b↔Con l a b)
 isin:∀ a,In n a→In n (cl out a)
 con:∀ a,In n a→Con l a (cl out a)
 least:∀ a b,In n a→In n b→Con l a b→cl out a≤b
theorem E1(n:Int)(l:List Edge)(hn:Sz n)(hs:l.length<1073741824)(ha:∀ e∈l,In n e.1∧In n e.2.1):∃ out,Fs (n,l,())=some (out,())∧PK n l out:=by
 have hmany:9223372036854775808<many:=by simp only[many];omega
 obtain⟨s1,s2⟩:=hn
 obtain⟨N,rfl⟩:=AUz (show 0≤n by omega)
 rw[Mm,G3]
 have key:∀ (m k cnt:Nat),k+m=N→m<cnt→AT Cb cnt ((N:Int),l,(List.range k).map (fun(k:Nat)=>(k:Int)),(k:Int),())=some (.inl ((N:Int),l,(List.range N).map (fun(k:Nat)=>(k:Int)),())):=by
  intro m
  induction m with
  |zero=>
   intro k cnt hk hc
   obtain⟨cnt,rfl⟩:∃ c,cnt=c+1:=⟨cnt-1,by omega⟩
   have:k=N:=by omega
   subst this
   rw[AT,Cb,AR,AUp (by omega)]
  |succ m ih=>
   intro k cnt hk hc
   obtain⟨cnt,rfl⟩:∃ c,cnt=c+1:=⟨cnt-1,by omega⟩
   have hih:=ih (k+1) cnt (by omega) (by omega)
   rw[AV9,AWR]at hih
   rw[AT,Cb,AR,AUr (by omega)]
   simp only[]
   rw[AK (by omega),DO (by simp only[AY,AU0,AVU,AWS,AVS];omega)]
   exact hih
 have e0:=key N 0 many (by omega) (by omega)
 have e0':AT Cb many ((N:Int),l,[],(0:Int),())=_:=e0
 have h0:CI N l ((List.range N).map (fun(k:Nat)=>(k:Int))):=by
  refine⟨by simp,fun k hk => ?_⟩
  have:((List.range N).map (fun(k:Nat)=>(k:Int))).getD k 0=(k:Int):=by simp[AUv,hk]
  rw[this]
  exact⟨by omega,by omega,.refl _⟩
 have hb:=KT h0 (by omega)
 obtain⟨out,e1,e2,e3⟩:=ATl N (by omega) l hs ha _ many _ rfl h0 (by omega)
 simp only[Ak,e0',e1]
 have fact:∀ a,In (N:Int) a→0≤cl out a∧cl out a≤a∧Con l a (cl out a):=by
  intro a hia
  obtain⟨k,rfl⟩:=AUz hia.2.2.1
  have:=e2.2 k (by have:=hia.2.2.2;omega)
  simpa [cl]using this
 refine⟨out,rfl,by rw[e2.1],fun a b ia ib=>⟨fun h => ?_,fun h=>h.const e3⟩,fun a ia => ?_,fun a ia=>(fact a ia).2.2,fun a b ia ib h => ?_⟩
 ·have h1:=(fact a ia).2.2
  have h2:=(fact b ib).2.2
  rw[← h]at h2
  exact h1.trans h2.symm
 ·have:=fact a ia
  have h3:=ia.2.2.2
  exact⟨s1,s2,by omega,by omega⟩
 ·have h1:cl out a=cl out b:=h.const e3
  have:=(fact b ib).2.1
  omega
end Go.Pev.Pl
end
end
section
namespace Go.Pev.Pl
theorem ART{σ ρ:Type}{step:σ→Option (σ⊕ρ)}(st:Nat→Nat→σ)(P:Nat→Bool)(fin:Nat→ρ)(lo hi:Nat)
  (h:∀ i j,lo≤i→i<j→j≤hi→step (st i j)=some (.inl (if P ((i+j)/2)=true then st ((i+j)/2+1) j else st i ((i+j)/2))))
  (hN:∀ i,lo≤i→i≤hi→step (st i i)=some (.inr (fin i)))
  (mono:∀ x y,lo≤x→x≤y→y<hi→P y=true→P x=true) :
  ∀ (m i j n:Nat),j-i=m→lo≤i→i≤j→j≤hi→m<n→(∀ x,lo≤x→x<i→P x=true)→(∀ x,j≤x→x<hi→P x=false) →
  ∃ k,lo≤k∧k≤hi∧(∀ x,lo≤x→x<k→P x=true)∧(∀ x,k≤x→x<hi→P x=false)∧AT step n (st i j)=some (fin k):=by
 intro m
 induction m using Nat.strongRecOn with
 |ind m ih=>
  intro i j n hm hi hij hj hn h1 h2
  obtain⟨n,rfl⟩:∃ k,n=k+1:=⟨n-1,by omega⟩
  by_cases he:i=j
  ·subst he
   exact⟨i,hi,hj,h1,h2,by rw[AT,hN i hi hj]⟩
  ·have hlt:i<j:=by omega
   rw[AT,h i j hi hlt hj]
   by_cases hp:P ((i+j)/2)=true
   ·rw[AU4 hp]
    exact ih (j-((i+j)/2+1)) (by omega) ((i+j)/2+1) j n rfl (by omega) (by omega) hj (by omega) (fun x a b=>mono x ((i+j)/2) a (by omega) (by omega) hp) h2
   ·rw[AUy hp]
    refine ih ((i+j)/2-i) (by omega) i ((i+j)/2) n rfl hi (by omega) (by omega) (by omega) h1 (fun x a b => ?_)
    cases hx:P x
    ·rfl
    ·exact absurd (mono ((i+j)/2) x (by omega) a b hx) hp
theorem AUk{σ ρ:Type}{step:σ→Option (σ⊕ρ)}(st:Nat→Nat→σ)(P:Nat→Bool)(fin:Nat→ρ)(lo hi:Nat)(hlh:lo≤hi)(hs:hi<9223372036854775808)
  (h:∀ i j,lo≤i→i<j→j≤hi→step (st i j)=some (.inl (if P ((i+j)/2)=true then st ((i+j)/2+1) j else st i ((i+j)/2))))
  (hN:∀ i,lo≤i→i≤hi→step (st i i)=some (.inr (fin i)))
  (mono:∀ x y,lo≤x→x≤y→y<hi→P y=true→P x=true) :
  ∃ k,lo≤k∧k≤hi∧(∀ x,lo≤x→x<k→P x=true)∧(∀ x,k≤x→x<hi→P x=false)∧AZ step many (st lo hi)=some (fin k):=by
 have hm:9223372036854775808<many:=by simp only[many];omega
 rw[Ak]
 exact ART st P fin lo hi h hN mono (hi-lo) lo hi many rfl (AU1 _) hlh (AU1 _) (by omega) (fun x a b=>by omega) (fun x a b=>by omega)
end Go.Pev.Pl
end
section
section
namespace Go.Pev.Pl
structure UF(N:Nat)(s:List Int)(c:Int→Int):Prop where
 len:s.length=N
 lo:∀ k,k<N→0≤s.getD k 0∧s.getD k 0≤(k:Int)
 par:∀ k,k<N→c (s.getD k 0)=c (k:Int)
 root:∀ k,k<N→s.getD k 0=(k:Int)→c (k:Int)=(k:Int)
 le:∀ k,k<N→0≤c (k:Int)∧c (k:Int)≤(k:Int)
theorem UF.idem{N:Nat}{s:List Int}{c:Int→Int}(h:UF N s c):∀ (m k:Nat),k≤m→k<N→c (c (k:Int))=c (k:Int):=by
 intro m
 induction m with
 |zero=>
  intro k hk hN
  have:=h.le k hN
  have e:c (k:Int)=(k:Int):=by omega
  rw[e,e]
 |succ m ih=>
  intro k hk hN
  have h1:=h.lo k hN
  by_cases hr:s.getD k 0=(k:Int)
  ·have e:=h.root k hN hr
   rw[e,e]
  ·obtain⟨j,hj⟩:=AUz h1.1
   have hp:=h.par k hN
   rw[hj]at hp
   rw[← hp]
   exact ih j (by omega) (by omega)
theorem UF.top{N:Nat}{s:List Int}{c:Int→Int}(h:UF N s c){k:Nat}(hk:k<N):s.getD (c (k:Int)).toNat 0=c (k:Int):=by
 have h1:=h.le k hk
 obtain⟨j,hj⟩:=AUz h1.1
 have hi:=h.idem k k (AU1 _) hk
 rw[hj]at hi ⊢
 have hjN:j<N:=by omega
 have h2:=h.lo j hjN
 have hp:=h.par j hjN
 obtain⟨i,hi'⟩:=AUz h2.1
 rw[hi']at hp
 have h3:=h.le i (by omega)
 show s.getD j 0=_
 omega
theorem ASy(a b:Int):EW a b=min a b:=by unfold EW;split<;>omega
theorem ASz(a b:Int):imax a b=max a b:=by unfold imax;split<;>omega
theorem Dc{N i x:Nat}(h:(List.range N)[i]? = some x):x=i:=by
 rw[AVO]at h
 obtain⟨h1,h2⟩:=h
 simpa using h2.symm
def ATX(c:Int→Int)(u v:Int):Int→Int:=fun x=>if c x=max (c u) (c v)then min (c u) (c v)else c x
def ARa(N:Nat)(c:Int→Int)(l:List Edge):Prop:=∀ a b,In (N:Int) a→In (N:Int) b→(c a=c b↔Con l a b)
theorem ARa.snoc{N:Nat}{c:Int→Int}{l:List Edge}{e:Edge}(h:ARa N c l)(h1:In (N:Int) e.1)(h2:In (N:Int) e.2.1):ARa N (ATX c e.1 e.2.1) (l++[e]):=by
 intro a b ia ib
 rw[Con.snoc,← h a b ia ib,← h a _ ia h1,← h _ b h2 ib,← h a _ ia h2,← h _ b h1 ib]
 unfold ATX
 generalize c a=x
 generalize c b=y
 generalize c e.1=u
 generalize c e.2.1=v
 split<;>split<;>omega
end Go.Pev.Pl
end
section
namespace Go.Pev.Pl
def sh(n:Int):Prop:=0≤n∧n≤65535
instance (n:Int):Decidable (sh n):=inferInstanceAs (Decidable (_∧_))
def tw(n:Int):List Int:=[n/256,n % 256]
end Go.Pev.Pl
end
section
namespace Go.Pev.Pl
abbrev Res:=Int×Int×List Int×Unit
def val(r:Res):Prop:=(0≤r.1∧r.1≤255)∧sh r.2.1∧sh (r.2.2.1.length:Int)∧∀ x∈r.2.2.1,sh x
instance (r:Res):Decidable (val r):=inferInstanceAs (Decidable (_∧_∧_∧_))
def enc(r:Res):List Int:=r.1::(tw r.2.1++(tw (r.2.2.1.length:Int)++r.2.2.1.flatMap tw))
end Go.Pev.Pl
end
section
namespace Go.Pev.Pl
theorem HW(a:Int):ieq a a=true:=by rw[EX];simp
end Go.Pev.Pl
end
section
namespace Go.Pev.Pl
open Go.RowKit Tok
section
variable {n:Int} {rings:List (List Int)}
theorem AFF{l:List Edge}{out:List Int}(h:FC n rings l)(hc:PK n l out){A:List Int}{u:Int}(hA:A∈rings)(iu:In n u)(hu:u∈A):hd A=cl out u:=by
 have gA:=h.fr.rg A hA
 have ih:=Ms gA
 have hh:=AA1 gA.2.1
 have h1:Con l u (hd A):=(h.sam u (hd A) iu ih).1 ⟨A,hA,hu,hh⟩
 have h2:=hc.least u (hd A) iu ih h1
 have h3:=hc.isin u iu
 obtain⟨K,hK,k1,k2⟩:=(h.sam u _ iu h3).2 (hc.con u iu)
 have:=h.fr.one hA hK iu.2.2.2 hu k1
 subst this
 have h4:=(ET gA.2.1).2 _ k2
 rw[gA.2.2.1]at h4
 have:hd A=A.headD 0:=rfl
 omega
end
end Go.Pev.Pl
end
section
namespace Go.Pev.Pl
def F7(n:Nat):Int:=((@Ih idI ((n:Int),())).getD (0,())).1
theorem AUh:((List.range 65).all fun k=>decide (@Ih idI ((k:Int),())=some (F7 k,())))=true:=by kernel_rfl
theorem AUS:((List.range 65).all fun k=>decide (@TU idI ((k:Int),())=some (F7 k,())))=true:=by kernel_rfl
theorem NX(n:Nat)(h:n≤64):Ih ((n:Int),())=some (F7 n,()):=by
 rw[show Ih ((n:Int),()) = @Ih idI ((n:Int),())from AWa (fun i=>@Ih i ((n:Int),())) Tf]
 exact AWP (AVC.1 AUh n (by simp;omega))
theorem TT(n:Nat)(h:n≤64):TU ((n:Int),())=some (F7 n,()):=by
 rw[show TU ((n:Int),()) = @TU idI ((n:Int),())from AWa (fun i=>@TU i ((n:Int),())) Tf]
 exact AWP (AVC.1 AUS n (by simp;omega))
def ARO(a b:Int):Int:=if a<b then -1 else if b<a then 1 else 0
theorem Mf(a b:Int):GY (a,b,())=some (ARO a b,()):=by
 rw[JO,GX]
 simp only[Q9,Ny,HW,AU7]
 unfold ARO
 rw[An,An]
 by_cases h:a<b
 ·rw[AUr h,AU4 h]
 ·rw[AUp h,AUy h]
  by_cases h':b<a
  ·rw[AUr h',AU4 h']
  ·rw[AUp h',AUy h']
theorem AKW(a b:Int):orI ([a,b],())=some (if a=0 then b else a,()):=by
 rw[AP9,AKX]
 have e:=P2 (step:=Kh) (fun i=>(0,[a,b],AQ [a,b],(i:Int),())) [a,b] (fun x => !decide (x=0)) (fun i=>.inl ([a,b].getD i 0,())) (.inr (.inl (0,()))) (by simp)
  (fun i x hi hx=>by
   rw[Kh,AY,AR,AUr hi]
   simp only[Az hx,BS]
   have hi2:i<2:=hi
   rw[AK (by omega)]
   have hg:[a,b].getD i 0=x:=by rw[AUv,hx];rfl
   rw[hg]
   by_cases h:x=0
   ·simp[h]
   ·simp[h])
  (by rw[Kh,AY,AR,AUp (by omega)])
 have e':AZ Kh many (0,[a,b],AQ [a,b],(0:Int),())=_:=e
 rw[e']
 by_cases h:a=0
 ·by_cases h':b=0
  ·simp[h,h']
  ·simp[h,h',AW4]
 ·simp[h,AW4]
theorem AAk(p x:Tie):∃ y,C1 (p,x,())=some (y,())∧ile 0 y = !decide (ahead p x):=by
 rw[JC,GK]
 simp only[Mf,AKW]
 refine⟨_,rfl,?_⟩
 rw[Aw]
 by_cases h:ahead p x
 ·rw[AUr h]
  unfold ahead at h
  unfold ARO
  rw[AUp];· rfl
  split<;>split<;>(try split)<;>omega
 ·rw[AUp h]
  unfold ahead at h
  unfold ARO
  rw[AUr];· rfl
  split<;>split<;>(try split)<;>omega
def IZ(N:Nat)(ts:List Tie)(i:Nat):Prop:=
 0≤(ts.getD i zT).1∧(ts.getD i zT).1<(ts.getD i zT).2.1∧(ts.getD i zT).2.1<(N:Int)∧0≤(ts.getD i zT).2.2.1∧(ts.getD i zT).2.2.1≤F7 N∧(i=0∨ahead (ts.getD (i-1) zT) (ts.getD i zT))
instance (N:Nat)(ts:List Tie)(i:Nat):Decidable (IZ N ts i):=inferInstanceAs (Decidable (_∧_∧_∧_∧_∧_))
def trs(ts:List Tie)(k:Nat):List Edge:=(List.range k).foldl (fun a i=>if(ts.getD i zT).2.2.2.1=true then a++[ed (ts.getD i zT)]else a) []
theorem ACC{α β ρ:Type}(P:β→Prop)[DecidablePred P](g:β→α→α)(fin:α→ρ)(rt:ρ):∀ (xs:List β) (a:α),walk (fun x a=>if P x then .inl (g x a)else .inr rt) fin xs a=if ∀ x∈xs,P x then fin (xs.foldl (fun a x=>g x a) a)else rt:=by
 intro xs
 induction xs with
 |nil=>intro a;simp[walk]
 |cons x xs ih=>
  intro a
  rw[walk]
  by_cases h:P x
  ·rw[AU4 h]
   simp only[]
   rw[ih]
   simp[h]
  ·rw[AUy h]
   simp[h]
theorem Rk(ts:List Tie)(k:Nat):trs ts (k+1)=if(ts.getD k zT).2.2.2.1=true then trs ts k++[ed (ts.getD k zT)]else trs ts k:=by
 unfold trs
 rw[AV9,List.foldl_append]
 rfl
theorem Ya(ts:List Tie):∀ k,(trs ts k).length≤k:=by
 intro k
 induction k with
 |zero=>exact AU1 _
 |succ k ih=>
  rw[Rk]
  split
  ·rw[AU6];simp;omega
  ·omega
theorem ARi(ts:List Tie)(e:Edge):∀ k,e∈trs ts k→∃ i,i<k∧e=ed (ts.getD i zT):=by
 intro k
 induction k with
 |zero=>intro h;simp[trs]at h
 |succ k ih=>
  intro h
  rw[Rk]at h
  split at h
  ·rcases AUt.1 h with h|h
   ·obtain⟨i,h1,h2⟩:=ih h;exact⟨i,by omega,h2⟩
   ·simp only[AVL]at h;exact⟨k,by omega,h⟩
  ·obtain⟨i,h1,h2⟩:=ih h;exact⟨i,by omega,h2⟩
def oks(N:Nat)(ts:List Tie):Prop:=∀ i∈List.range ts.length,IZ N ts i
instance (N:Nat)(ts:List Tie):Decidable (oks N ts):=inferInstanceAs (Decidable (∀ i∈List.range ts.length,IZ N ts i))
theorem AEb(N:Nat)(hN:N≤64)(ts:List Tie)(hs:ts.length≤400):
  AZ DC many ((N:Int),ts,F7 N,ts,AQ ts,(0:Int),())=some (if oks N ts then .inr (.inl ((N:Int),ts,()))else .inl (false,())):=by
 have e:=EH (step:=DC) (fun i (_:Unit)=>((N:Int),ts,F7 N,ts,AQ ts,(i:Int),())) (List.range ts.length) (fun i a=>if IZ N ts i then .inl a else .inr (.inl (false,()))) (fun _=>.inr (.inl ((N:Int),ts,()))) (fun _ _=>True) (by simp;omega)
  (fun i x a hi hx _=>by
   have:=Dc hx
   subst this
   rw[AVS]at hi
   have step:DC ((N:Int),ts,F7 N,ts,AQ ts,(x:Int),())=if IZ N ts x then some (.inl ((N:Int),ts,F7 N,ts,AQ ts,((x+1:Nat):Int),()))else some (.inr (.inl (false,()))):=by
    rw[DC,AY,AR,AUr hi]
    simp only[IU zT hi]
    obtain⟨t,ht⟩:∃ t,ts.getD x zT=t:=⟨_,rfl⟩
    have hk:IZ N ts x↔(0≤t.1∧t.1<t.2.1∧t.2.1<(N:Int)∧0≤t.2.2.1∧t.2.2.1≤F7 N∧(x=0∨ahead (ts.getD (x-1) zT) t)):=by unfold IZ;rw[ht]
    rw[ht]
    rw[An,Aw,Aw,An,An]
    by_cases h1:t.1<0
    ·rw[AUr h1,AUy (fun h=>by obtain⟨q1,q2,q3,q4,q5,_⟩:=hk.1 h;omega)]
    rw[AUp h1]
    by_cases h2:t.2.1≤t.1
    ·rw[AUr h2,AUy (fun h=>by obtain⟨q1,q2,q3,q4,q5,_⟩:=hk.1 h;omega)]
    rw[AUp h2]
    by_cases h3:(N:Int)≤t.2.1
    ·rw[AUr h3,AUy (fun h=>by obtain⟨q1,q2,q3,q4,q5,_⟩:=hk.1 h;omega)]
    rw[AUp h3]
    by_cases h4:t.2.2.1<0
    ·rw[AUr h4,AUy (fun h=>by obtain⟨q1,q2,q3,q4,q5,_⟩:=hk.1 h;omega)]
    rw[AUp h4]
    by_cases h5:F7 N<t.2.2.1
    ·rw[AUr h5,AUy (fun h=>by obtain⟨q1,q2,q3,q4,q5,_⟩:=hk.1 h;omega)]
    rw[AUp h5]
    simp only[]
    rw[AK (by omega),An]
    by_cases h6:x=0
    ·subst h6
     rw[AUp (by omega),AU4 (hk.2 ⟨by omega,by omega,by omega,by omega,by omega,.inl rfl⟩)]
    ·rw[AUr (by omega),Ah (by omega),show((x:Int)-1)=((x-1:Nat):Int) by omega]
     simp only[IU zT (show x-1<ts.length by omega)]
     obtain⟨y,ey,hy⟩:=AAk (ts.getD (x-1) zT) t
     have ey':C1 (((ts.getD (x-1) zT).1,((ts.getD (x-1) zT).2.1,((ts.getD (x-1) zT).2.2.1,((ts.getD (x-1) zT).2.2.2.1,())))),(t.1,(t.2.1,(t.2.2.1,(t.2.2.2.1,())))),())=some (y,()):=ey
     simp only[ey',hy]
     by_cases h7:ahead (ts.getD (x-1) zT) t
     ·rw[AUr h7,AU4 (hk.2 ⟨by omega,by omega,by omega,by omega,by omega,.inr h7⟩)]
      rfl
     ·rw[AUp h7,AUy (fun h=>by rcases(hk.1 h).2.2.2.2.2 with h|h;exact h6 h;exact h7 h)]
      rfl
   by_cases h:IZ N ts x
   ·rw[AU4 h]at step ⊢
    refine⟨fun m' h' => ?_,fun r h'=>(by cases h')⟩
    cases h'
    exact⟨step,trivial⟩
   ·rw[AUy h]at step ⊢
    refine⟨fun m' h'=>(by cases h'),fun r h' => ?_⟩
    cases h'
    exact step)
  (fun a _=>by rw[DC,AVS,AY,AR,AUp (by omega)]) () trivial
 have e':AZ DC many ((N:Int),ts,F7 N,ts,AQ ts,(0:Int),())=_:=e
 rw[e',ACC (IZ N ts) (fun _ a=>a)]
 rfl
theorem La(N:Nat)(hN:N≤64)(ts:List Tie)(hs:ts.length≤400):
  AZ CS many ((N:Int),ts,[],(0:Int),())=some (if oks N ts then .inr (.inl ((N:Int),ts,trs ts ts.length,()))else .inl (false,())):=by
 have e:=EH (step:=CS) (fun i (a:List Edge)=>((N:Int),ts,a,(i:Int),())) (List.range ts.length) (fun i a=>if IZ N ts i then .inl (if(ts.getD i zT).2.2.2.1=true then a++[ed (ts.getD i zT)]else a)else .inr (.inl (false,()))) (fun a=>.inr (.inl ((N:Int),ts,a,()))) (fun i a=>a.length≤i) (by simp;omega)
  (fun i x a hi hx ha=>by
   have:=Dc hx
   subst this
   rw[AVS]at hi
   have step:CS ((N:Int),ts,a,(x:Int),())=if IZ N ts x then some (.inl ((N:Int),ts,if(ts.getD x zT).2.2.2.1=true then a++[ed (ts.getD x zT)]else a,((x+1:Nat):Int),()))else some (.inr (.inl (false,()))):=by
    rw[CS,AY,AR,AUr hi]
    simp only[IU zT hi,NX N hN]
    obtain⟨t,ht⟩:∃ t,ts.getD x zT=t:=⟨_,rfl⟩
    have hk:IZ N ts x↔(0≤t.1∧t.1<t.2.1∧t.2.1<(N:Int)∧0≤t.2.2.1∧t.2.2.1≤F7 N∧(x=0∨ahead (ts.getD (x-1) zT) t)):=by unfold IZ;rw[ht]
    rw[ht]
    rw[An,Aw,Aw,An,An]
    by_cases h1:t.1<0
    ·rw[AUr h1,AUy (fun h=>by obtain⟨q1,q2,q3,q4,q5,_⟩:=hk.1 h;omega)]
    rw[AUp h1]
    by_cases h2:t.2.1≤t.1
    ·rw[AUr h2,AUy (fun h=>by obtain⟨q1,q2,q3,q4,q5,_⟩:=hk.1 h;omega)]
    rw[AUp h2]
    by_cases h3:(N:Int)≤t.2.1
    ·rw[AUr h3,AUy (fun h=>by obtain⟨q1,q2,q3,q4,q5,_⟩:=hk.1 h;omega)]
    rw[AUp h3]
    by_cases h4:t.2.2.1<0
    ·rw[AUr h4,AUy (fun h=>by obtain⟨q1,q2,q3,q4,q5,_⟩:=hk.1 h;omega)]
    rw[AUp h4]
    by_cases h5:F7 N<t.2.2.1
    ·rw[AUr h5,AUy (fun h=>by obtain⟨q1,q2,q3,q4,q5,_⟩:=hk.1 h;omega)]
    rw[AUp h5]
    simp only[AY]
    have hfit:fits ((a.length:Int)+(([(t.1,t.2.1,())]:List Edge).length:Int))=true:=DO (by simp;omega)
    rw[AK (by omega),An]
    by_cases h6:x=0
    ·subst h6
     rw[AUp (by omega),AU4 (hk.2 ⟨by omega,by omega,by omega,by omega,by omega,.inl rfl⟩)]
     cases ht4:t.2.2.2.1
     ·simp
     ·simp only[hfit]
      simp[ed,Bt]
    ·rw[AUr (by omega),Ah (by omega),show((x:Int)-1)=((x-1:Nat):Int) by omega]
     simp only[IU zT (show x-1<ts.length by omega),BS]
     generalize ts.getD (x-1) zT=p at hk ⊢
     rw[An,Aw]
     by_cases h7:t.1<p.1
     ·rw[AUr h7,AUy (fun h=>by rcases(hk.1 h).2.2.2.2.2 with h|h|h<;>omega)]
     rw[AUp h7]
     by_cases h8:p.1=t.1
     ·rw[AUr h8]
      by_cases h9:t.2.1≤p.2.1
      ·rw[AUr h9,AUy (fun h=>by rcases(hk.1 h).2.2.2.2.2 with h|h|h<;>omega)]
      rw[AUp h9,AU4 (hk.2 ⟨by omega,by omega,by omega,by omega,by omega,.inr (.inr ⟨h8,by omega⟩)⟩)]
      cases ht4:t.2.2.2.1
      ·simp
      ·simp only[hfit]
       simp[ed,Bt]
     ·rw[AUp h8,AU4 (hk.2 ⟨by omega,by omega,by omega,by omega,by omega,.inr (.inl (by omega))⟩)]
      cases ht4:t.2.2.2.1
      ·simp
      ·simp only[hfit]
       simp[ed,Bt]
   by_cases h:IZ N ts x
   ·rw[AU4 h]at step ⊢
    refine⟨fun m' h' => ?_,fun r h'=>(by cases h')⟩
    cases h'
    refine⟨step,?_⟩
    split
    ·rw[AU6];simp;omega
    ·omega
   ·rw[AUy h]at step ⊢
    refine⟨fun m' h'=>(by cases h'),fun r h' => ?_⟩
    cases h'
    exact step)
  (fun a _=>by rw[CS,AVS,AY,AR,AUp (by omega)]) [] (AU1 _)
 have e':AZ CS many ((N:Int),ts,[],(0:Int),())=_:=e
 rw[e',ACC (IZ N ts) (fun i a=>if(ts.getD i zT).2.2.2.1=true then a++[ed (ts.getD i zT)]else a)]
 rfl
end Go.Pev.Pl
end
end
section
section
namespace Go.Pev.Pl
theorem AKd{N:Nat}{ts:List Tie}(hN:N≤64){i:Nat}(h:IZ N ts i):In (N:Int) (ed (ts.getD i zT)).1∧In (N:Int) (ed (ts.getD i zT)).2.1:=by
 obtain⟨q1,q2,q3,_⟩:=h
 exact⟨⟨by omega,by omega,q1,by show(ts.getD i zT).1<_;omega⟩,⟨by omega,by omega,by show 0≤(ts.getD i zT).2.1;omega,q3⟩⟩
theorem AGM{N:Nat}{ts:List Tie}(hN:N≤64)(h:oks N ts):∀ e∈trs ts ts.length,In (N:Int) e.1∧In (N:Int) e.2.1:=by
 intro e he
 obtain⟨i,hi,rfl⟩:=ARi ts e _ he
 exact AKd hN (h i (by simp[hi]))
theorem AUE{N:Nat}{ts:List Tie}(hN:N≤64)(h:oks N ts):∀ e∈ts.map ed,In (N:Int) e.1∧In (N:Int) e.2.1:=by
 intro e he
 obtain⟨t,ht,rfl⟩:=AVD.1 he
 obtain⟨i,hi,rfl⟩:=AVm ht
 have:=AKd hN (h i (by simp[hi]))
 simpa [hi]using this
theorem AIL{N:Nat}(ts:List Tie)(hs:ts.length≤400)(h:oks N ts):Kl (((N:Int),(ts,())),(0:Int),())=some (trs ts ts.length,()):=by
 rw[OC,I6]
 have e:=EH (step:=CK) (fun i (a:List Edge)=>((0:Int),a,ts,AQ ts,(i:Int),())) (List.range ts.length) (fun i a=>.inl (if(ts.getD i zT).2.2.2.1=true then a++[ed (ts.getD i zT)]else a)) (fun a=>.inl (a,())) (fun i a=>a.length≤i) (by simp;omega)
  (fun i x a hi hx ha=>by
   refine⟨fun m' h' => ?_,fun r h'=>(by cases h')⟩
   cases h'
   have:=Dc hx
   subst this
   rw[AVS]at hi
   have hlv:=(h x (by simp[hi])).2.2.2.1
   constructor
   ·rw[CK,AY,AR,AUr hi]
    simp only[IU zT hi,AY]
    have hfit:fits ((a.length:Int)+(([((ts.getD x zT).1,(ts.getD x zT).2.1,())]:List Edge).length:Int))=true:=DO (by simp;omega)
    rw[AK (by omega),Aw,AUr hlv]
    cases ht4:(ts.getD x zT).2.2.2.1
    ·simp
    ·simp only[hfit]
     simp[ed,Bt]
   ·split
    ·rw[AU6];simp;omega
    ·omega)
  (fun a _=>by rw[CK,AVS,AY,AR,AUp (by omega)]) [] (AU1 _)
 have e':AZ CK many ((0:Int),[],ts,AQ ts,(0:Int),())=_:=e
 simp only[e']
 rw[Bu (fun i a=>if(ts.getD i zT).2.2.2.1=true then a++[ed (ts.getD i zT)]else a)]
 rfl
def cnt(out:List Int)(N:Nat):Nat:=((List.range N).filter fun k=>decide (out.getD k 0=(k:Int))).length
theorem AC4{N:Nat}{rings:List (List Int)}{l:List Edge}{out:List Int}(h:FC (N:Int) rings l)(hc:PK (N:Int) l out):rings.length=cnt out N:=by
 have hsz:=h.fr.sz
 have hp:(rings.map hd).Perm (((List.range N).filter fun k=>decide (out.getD k 0=(k:Int))).map fun(k:Nat)=>(k:Int)):=by
  rw[List.perm_ext_iff_of_nodup]
  ·intro a
   simp only[AVD,AVf,AWE,AUs]
   constructor
   ·rintro⟨A,hA,rfl⟩
    have gA:=h.fr.rg A hA
    have ih:In (N:Int) (hd A):=Ms gA
    have hh:=AA1 gA.2.1
    have:=AFF h hc hA ih hh
    obtain⟨_,_,a1,a2⟩:=ih
    refine⟨(hd A).toNat,⟨by omega,?_⟩,by omega⟩
    rw[show out.getD (hd A).toNat 0=cl out (hd A)from rfl,← this]
    omega
   ·rintro⟨k,⟨hk,ho⟩,rfl⟩
    have ik:In (N:Int) (k:Int):=⟨hsz.1,hsz.2,by omega,by omega⟩
    obtain⟨A,hA,hm⟩:=h.fr.cov _ ik
    refine⟨A,hA,?_⟩
    rw[AFF h hc hA ik hm]
    unfold cl
    rw[AVq];exact ho
  ·exact(AV6.2 h.fr.up).imp (fun h=>by omega)
  ·refine List.Pairwise.map _ (S:=fun a b=>a≠b) (R:=fun a b=>a≠b) (fun a b h h'=>h (by omega)) ?_
   exact(AXS).filter _
 have:=hp.length_eq
 rw[AWS,AWS]at this
 exact this
theorem KI(N:Nat)(hN:N≤64)(p:List Tie)(q:List Edge)(out:List Int)(ho:out.length=N):AZ Cx many ((N:Int),p,q,out,(0:Int),(0:Int),())=some (.inl ((N:Int),p,q,(cnt out N:Int),())):=by
 have e:=EH (step:=Cx) (fun i (a:Nat)=>((N:Int),p,q,out,(a:Int),(i:Int),())) (List.range N) (fun k a=>.inl (if out.getD k 0=(k:Int)then a+1 else a)) (fun a=>.inl ((N:Int),p,q,(a:Int),())) (fun i a=>a≤i) (by simp;omega)
  (fun i x a hi hx ha=>by
   refine⟨fun m' h' => ?_,fun r h'=>(by cases h')⟩
   cases h'
   have:=Dc hx
   subst this
   rw[AVS]at hi
   constructor
   ·rw[Cx,AR,AUr hi]
    simp only[IU 0 (show x<out.length by omega),Oe,BS]
    rw[AK (by omega),AK (by omega)]
    by_cases h:out.getD x 0=(x:Int)
    ·rw[AUr h,AU4 h]
    ·rw[AUp h,AUy h]
   ·split<;>omega)
  (fun a _=>by rw[Cx,AVS,AR,AUp (by omega)]) 0 (AU1 _)
 have e':AZ Cx many ((N:Int),p,q,out,(0:Int),(0:Int),())=_:=e
 rw[e',Bu (fun k a=>if out.getD k 0=(k:Int)then a+1 else a)]
 have key:∀ (xs:List Nat) (a:Nat),xs.foldl (fun a k=>if out.getD k 0=(k:Int)then a+1 else a) a=a+(xs.filter fun k=>decide (out.getD k 0=(k:Int))).length:=by
  intro xs
  induction xs with
  |nil=>intro a;rfl
  |cons x xs ih=>
   intro a
   rw[AVo,ih,AWI]
   by_cases h:out.getD x 0=(x:Int)
   ·simp only[h,AVM,AU2,AU0];omega
   ·simp only[h,AU3,AVA,AU5]
 rw[key,AVs]
 rfl
theorem VX(n:Int)(ts:List Tie)(hl:ts.length<4611686018427387904):∃ b:Bool,Fa ((n,(ts,())),())=some (b,())∧FN ((n,(ts,())),())=some (b,())∧(b=true→∃ N:Nat,n=(N:Int)∧1≤N∧N≤64∧ts.length≤400∧oks N ts):=by
 by_cases hn:¬ (1≤n∧n≤64)
 ·refine⟨false,?_,?_,fun h=>by cases h⟩
  ·rw[EO,Dm,An,An]
   by_cases h:n<1
   ·simp only[AUr h]
   ·simp only[AUp h,AUr (show 64<n by omega)]
  ·rw[HT,GH]
   simp only[OD,I8,Aw]
   by_cases h:1≤n
   ·simp only[AUr h,AUp (show ¬ n≤64 by omega),AVg]
   ·simp only[AUp h,AVg]
 have hn:=AW1.1 hn
 obtain⟨N,rfl⟩:=AUz (show 0≤n by omega)
 have hsz:OE ((N:Int),())=some (true,()):=by
  simp only[OD,I8,Aw,AUr hn.1,AUr hn.2]
 by_cases h4:¬ ts.length≤400
 ·refine⟨false,?_,?_,fun h=>by cases h⟩
  ·rw[EO,Dm]
   simp only[An,AY]
   rw[AUp (show ¬ (N:Int)<1 by omega),AUp (show ¬ 64<(N:Int) by omega),AUr (show 400<(ts.length:Int) by omega)]
  ·rw[HT,GH]
   simp only[hsz,AU7,An,AY]
   rw[AUr (show 400<(ts.length:Int) by omega)]
 have h4:=AW1.1 h4
 have R:=La N (by omega) ts h4
 have L:=AEb N (by omega) ts h4
 by_cases ho:¬ oks N ts
 ·rw[AUy ho]at R L
  refine⟨false,?_,?_,fun h=>by cases h⟩
  ·rw[EO,Dm]
   simp only[An,AY]
   rw[AUp (show ¬ (N:Int)<1 by omega),AUp (show ¬ 64<(N:Int) by omega),AUp (show ¬ 400<(ts.length:Int) by omega)]
   simp only[R]
  ·rw[HT,GH]
   simp only[hsz,AU7,An,AY,TT N (by omega)]
   rw[AUp (show ¬ 400<(ts.length:Int) by omega)]
   rw[AY]at L
   simp only[L]
 have ho:=AW1.1 ho
 rw[AU4 ho]at R L
 have hin:=AGM (show N≤64 by omega) ho
 have hlen:=Ya ts ts.length
 obtain⟨out,hc,hcl⟩:=E1 (N:Int) (trs ts ts.length) hn (by omega) hin
 rcases(AK4 (N:Int) (trs ts ts.length) hn (by omega)).symm with⟨hno,_⟩|⟨_,rings,hf,hfc⟩
 ·exact absurd hin hno
 have hcount:=AC4 hfc hcl
 have hol:out.length=N:=by have:=hcl.len;omega
 refine⟨decide ((cnt out N:Int)=(N:Int)-(trs ts ts.length).length),?_,?_,fun _=>⟨N,rfl,by omega,by omega,h4,ho⟩⟩
 ·rw[EO,Dm]
  simp only[An,AY]
  rw[AUp (show ¬ (N:Int)<1 by omega),AUp (show ¬ 64<(N:Int) by omega),AUp (show ¬ 400<(ts.length:Int) by omega)]
  simp only[R,hc,KI N (by omega) _ _ out hol,BS]
  rw[Ah (by omega)]
 ·rw[HT,GH]
  simp only[hsz,AU7,An,AY,TT N (by omega)]
  rw[AUp (show ¬ 400<(ts.length:Int) by omega)]
  rw[AY]at L
  simp only[L,AIL ts h4 ho,hf,HW,BS,hcount]
  rw[Ah (by omega)]
end Go.Pev.Pl
end
section
namespace Go.Pev.Pl
theorem PK.unique{N:Nat}{l:List Edge}{a b:List Int}(h1:1≤N)(h2:N≤64)(ha:PK (N:Int) l a)(hb:PK (N:Int) l b):a=b:=by
 have la:=ha.len
 have lb:=hb.len
 refine ABH (0:Int) (by omega) fun k hk => ?_
 have ik:In (N:Int) (k:Int):=⟨by omega,by omega,by omega,by omega⟩
 have e1:=ha.least _ _ ik (hb.isin _ ik) (hb.con _ ik)
 have e2:=hb.least _ _ ik (ha.isin _ ik) (ha.con _ ik)
 unfold cl at e1 e2
 rw[AVq]at e1 e2
 omega
def InV(N:Nat)(x:Int):Prop:=0≤x∧x<(N:Int)
instance (N:Nat)(x:Int):Decidable (InV N x):=inferInstanceAs (Decidable (_∧_))
end Go.Pev.Pl
end
section
namespace Go.Pev.Pl
end Go.Pev.Pl
end
section
namespace Go.Pev.Pl
def AS2(l:List Edge)(u v:Int):Prop:=((u,(v,())):Edge)∈l∨((v,(u,())):Edge)∈l
instance (l:List Edge)(u v:Int):Decidable (AS2 l u v):=inferInstanceAs (Decidable (_∨_))
def ARz(N:Nat)(l:List Edge)(u:Nat):List Edge:=((List.range (N-(u+1))).filter fun i=>decide (AS2 l (u:Int) ((u+1+i:Nat):Int))).map fun(i:Nat)=>((u:Int),((u+1+i:Nat):Int),())
def SV(N:Nat)(l:List Edge):List Edge:=(List.range N).flatMap fun u=>ARz N l u
end Go.Pev.Pl
end
section
namespace Go.Pev.Pl
def He(N:Nat)(ts:List Tie)(l:List Edge):List Edge:=(SV N l).filter fun x => !decide (x∈ts.map ed)
def SR(l:List Tie)(t:Tie):List Tie:=l.take (l.findIdx fun x => !decide (ahead x t))++t::l.drop (l.findIdx fun x => !decide (ahead x t))
end Go.Pev.Pl
end
section
namespace Go.Pev.Pl
def valid(N:Nat)(t:Tie):Prop:=0≤t.1∧t.1<t.2.1∧t.2.1<(N:Int)∧0≤t.2.2.1∧t.2.2.1≤F7 N
theorem ahead.trans{a b c:Tie}(h:ahead a b)(h':ahead b c):ahead a c:=by
 unfold ahead at *
 omega
theorem Lt(N:Nat)(ts:List Tie):oks N ts↔(∀ t∈ts,valid N t)∧ts.Pairwise ahead:=by
 constructor
 ·intro h
  have hv:∀ i,i<ts.length→IZ N ts i:=fun i hi=>h i (by simpa using hi)
  refine⟨fun t ht => ?_,?_⟩
  ·obtain⟨i,hi,rfl⟩:=AVm ht
   obtain⟨q1,q2,q3,q4,q5,_⟩:=hv i hi
   simp only[AUv,AUx hi,AVb]at q1 q2 q3 q4 q5
   exact⟨q1,q2,q3,q4,q5⟩
  ·have key:∀ (d i:Nat),i+d+1<ts.length→ahead (ts.getD i zT) (ts.getD (i+d+1) zT):=by
    intro d
    induction d with
    |zero=>
     intro i hi
     obtain⟨_,_,_,_,_,q⟩:=hv (i+0+1) hi
     rcases q with q|q
     ·omega
     ·simpa using q
    |succ d ih=>
     intro i hi
     have h1:=ih i (by omega)
     obtain⟨_,_,_,_,_,q⟩:=hv (i+(d+1)+1) hi
     rcases q with q|q
     ·omega
     ·rw[show i+(d+1)+1-1=i+d+1 by omega]at q
      exact h1.trans q
   rw[AVa]
   intro i j hi hj hij
   have:=key (j-i-1) i (by omega)
   rw[show i+(j-i-1)+1=j by omega]at this
   simpa only[AUv,AUx hi,AUx hj,AVb]using this
 ·rintro⟨h1,h2⟩ i hi
  have hi:i<ts.length:=by simpa using hi
  have e:∀ j (hj:j<ts.length),ts.getD j zT=ts[j]:=fun j hj=>by
   simp only[AUv,AUx hj,AVb]
  obtain⟨q1,q2,q3,q4,q5⟩:=h1 ts[i] (AWe hi)
  unfold IZ
  rw[e i hi]
  refine⟨q1,q2,q3,q4,q5,?_⟩
  by_cases h0:i=0
  ·exact .inl h0
  ·right
   rw[e (i-1) (by omega)]
   exact(AVa.1 h2) (i-1) i (by omega) hi (by omega)
theorem XQ(l:List Tie)(t:Tie):(SR l t).Perm (t::l):=by
 unfold SR
 refine List.perm_middle.trans ?_
 rw[AVx]
theorem AL6{l:List Tie}{t:Tie}(h:l.Pairwise ahead)(hn:∀ x∈l,¬ (x.1=t.1∧x.2.1=t.2.1)):(SR l t).Pairwise ahead:=by
 induction l with
 |nil=>simp[SR]
 |cons a l ih=>
  rw[AVd]at h
  have hna:=hn a (by simp)
  have hnl:∀ x∈l,¬ (x.1=t.1∧x.2.1=t.2.1):=fun x hx=>hn x (by simp[hx])
  by_cases ha:ahead a t
  ·have e:SR (a::l) t=a::SR l t:=by
    unfold SR
    rw[AW4]
    simp[ha]
   rw[e,AVd]
   refine⟨fun x hx => ?_,ih h.2 hnl⟩
   rcases AUw.1 ((XQ l t).mem_iff.1 hx)with rfl|hx
   ·exact ha
   ·exact h.1 x hx
  ·have e:SR (a::l) t=t::a::l:=by
    unfold SR
    rw[AW4]
    simp[ha]
   have hta:ahead t a:=by unfold ahead at *;omega
   rw[e,AVd,AVd]
   refine⟨fun x hx => ?_,h.1,h.2⟩
   rcases AUw.1 hx with rfl|hx
   ·exact hta
   ·exact hta.trans (h.1 x hx)
end Go.Pev.Pl
end
section
namespace Go.Pev.Pl
theorem AIF(N:Nat)(l:List Edge)(x:Edge):x∈SV N l↔0≤x.1∧x.1<x.2.1∧x.2.1<(N:Int)∧AS2 l x.1 x.2.1:=by
 unfold SV ARz
 simp only[AXU,AVD,AVf,AWE,AUs]
 constructor
 ·rintro⟨u,hu,i,⟨hi,he⟩,rfl⟩
  exact⟨by show(0:Int)≤(u:Int);omega,by show(u:Int)<((u+1+i:Nat):Int);omega,by show((u+1+i:Nat):Int)<(N:Int);omega,he⟩
 ·obtain⟨a,b,⟨⟩⟩:=x
  rintro⟨h1,h2,h3,h4⟩
  simp only at h1 h2 h3 h4
  obtain⟨u,rfl⟩:=AUz h1
  obtain⟨v,rfl⟩:=AUz (show 0≤b by omega)
  refine⟨u,by omega,v-(u+1),⟨by omega,?_⟩,?_⟩
  ·rw[show u+1+(v-(u+1))=v by omega];exact h4
  ·rw[show u+1+(v-(u+1))=v by omega]
def ABr(p x:Edge):Prop:=p.1<x.1∨(p.1=x.1∧p.2.1<x.2.1)
theorem ADB(N:Nat)(l:List Edge):(SV N l).Pairwise ABr:=by
 unfold SV
 rw[List.pairwise_flatMap]
 refine⟨fun u _ => ?_,?_⟩
 ·unfold ARz
  rw[AV6]
  refine AXA _ ?_
  refine List.pairwise_lt_range.imp fun h => ?_
  exact .inr ⟨rfl,by show((u+1+_:Nat):Int)<((u+1+_:Nat):Int);omega⟩
 ·refine List.pairwise_lt_range.imp fun h x hx y hy => ?_
  unfold ARz at hx hy
  simp only[AVD]at hx hy
  obtain⟨i,_,rfl⟩:=hx
  obtain⟨j,_,rfl⟩:=hy
  exact .inl (by simp only;omega)
theorem Nz(N:Nat)(ts:List Tie)(l:List Edge)(x:Edge):x∈He N ts l↔(0≤x.1∧x.1<x.2.1∧x.2.1<(N:Int)∧AS2 l x.1 x.2.1)∧¬ x∈ts.map ed:=by
 unfold He
 rw[AVf,AIF]
 simp
theorem AJa(N:Nat)(ts:List Tie)(l:List Edge):(He N ts l).Pairwise ABr:=(ADB N l).filter _
end Go.Pev.Pl
end
section
namespace Go.Pev.Pl
open Tok
instance (n v:Int):Decidable (In n v):=inferInstanceAs (Decidable (_∧_))
instance (n:Int):Decidable (Sz n):=inferInstanceAs (Decidable (_∧_))
end Go.Pev.Pl
end
section
namespace Go.Pev.Pl
instance (xs:List Int):Decidable (Rt xs):=inferInstanceAs (Decidable (_∧_∧_))
end Go.Pev.Pl
end
section
namespace Go.Pev.Pl
open Tok
noncomputable instance (n:Int) (xs:List Int):Decidable (TI n xs):=Classical.propDecidable _
end Go.Pev.Pl
end
section
namespace Go.Pev.Pl
open Tok
end Go.Pev.Pl
end
section
namespace Go.Pev.Pl
open Tok
end Go.Pev.Pl
end
section
namespace Go.Pev.Pl
open Tok
noncomputable instance (n:Int) (rings:List (List Int)):Decidable (RF n rings):=Classical.propDecidable _
noncomputable instance (n:Int) (xs:List Int):Decidable (RG n xs):=Classical.propDecidable _
end Go.Pev.Pl
end
end
section
section
namespace Go.Pev.Pl
open Tok
end Go.Pev.Pl
end
section
namespace Go.Pev.Pl
open Tok
end Go.Pev.Pl
end
section
namespace Go.Pev.Pl
open Tok
end Go.Pev.Pl
end
section
namespace Go.Pev.Pl
open Tok
end Go.Pev.Pl
end
section
namespace Go.Pev.Pl
open Go.RowKit Tok
end Go.Pev.Pl
end
section
namespace Go.Pev.Pl
open Tok
end Go.Pev.Pl
end
section
namespace Go.Pev.Pl
open Tok
end Go.Pev.Pl
end
section
namespace Go.Pev.Pl
open Tok
def sel(l:List Edge)(bs:List Bool):List Edge:=((l.zip bs).filter fun p=>p.2).map fun p=>p.1
end Go.Pev.Pl
end
section
namespace Go.Pev.Pl
open Tok
instance (n v:Int):Decidable (In n v):=inferInstanceAs (Decidable (_∧_))
instance (n:Int):Decidable (Sz n):=inferInstanceAs (Decidable (_∧_))
end Go.Pev.Pl
end
section
namespace Go.Pev.Pl
instance (xs:List Int):Decidable (Rt xs):=inferInstanceAs (Decidable (_∧_∧_))
end Go.Pev.Pl
end
section
namespace Go.Pev.Pl
open Tok
noncomputable instance (n:Int) (xs:List Int):Decidable (TI n xs):=Classical.propDecidable _
end Go.Pev.Pl
end
section
namespace Go.Pev.Pl
open Tok
noncomputable instance (n:Int) (rings:List (List Int)):Decidable (RF n rings):=Classical.propDecidable _
noncomputable instance (n:Int) (xs:List Int):Decidable (RG n xs):=Classical.propDecidable _
end Go.Pev.Pl
end
section
namespace Go.Pev.Pl
open Tok
end Go.Pev.Pl
end
section
namespace Go.Pev.Pl
open Tok
end Go.Pev.Pl
end
section
namespace Go.Pev.Pl
open Tok
end Go.Pev.Pl
end
section
namespace Go.Pev.Pl
open Tok
end Go.Pev.Pl
end
section
namespace Go.Pev.Pl
open Tok
theorem AC6{N:Nat}(h1:1≤N)(hN:N≤64){ts:List Tie}(hs:ts.length≤400)(ho:oks N ts){out:List Int}(hc:PK (N:Int) (trs ts ts.length) out):
  Fa (((N:Int),(ts,())),())=some (decide ((cnt out N:Int)=(N:Int)-(trs ts ts.length).length),()):=by
 have R:=La N hN ts hs
 rw[AU4 ho]at R
 have hin:=AGM hN ho
 have hlen:=Ya ts ts.length
 obtain⟨o2,e2,c2⟩:=E1 (N:Int) (trs ts ts.length) ⟨by omega,by omega⟩ (by omega) hin
 have:=PK.unique h1 hN hc c2
 subst this
 have hol:out.length=N:=by have:=hc.len;omega
 rw[EO,Dm]
 simp only[An,AY]
 rw[AUp (show ¬ (N:Int)<1 by omega),AUp (show ¬ 64<(N:Int) by omega),AUp (show ¬ 400<(ts.length:Int) by omega)]
 simp only[R,e2,KI N hN _ _ out hol,BS]
 rw[Ah (by omega)]
end Go.Pev.Pl
end
section
namespace Go.Pev.Pl
open Tok
theorem Con.perm{l l':List Edge}(h:∀ e,e∈l↔e∈l'){a b:Int}:Con l a b↔Con l' a b:=
 ⟨fun c=>c.mono fun e he=>⟨e,(h e).1 he,.inl ⟨rfl,rfl⟩⟩,fun c=>c.mono fun e he=>⟨e,(h e).2 he,.inl ⟨rfl,rfl⟩⟩⟩
theorem PK.congr{n:Int}{l l':List Edge}{out:List Int}(h:∀ a b,Con l a b↔Con l' a b)(hc:PK n l out):PK n l' out:=
 ⟨hc.len,fun a b ia ib=>(hc.same a b ia ib).trans (h a b),hc.isin,fun a ia=>(h a _).1 (hc.con a ia),fun a b ia ib c=>hc.least a b ia ib ((h a b).2 c)⟩
end Go.Pev.Pl
end
section
namespace Go.Pev.Pl
open Tok
def XF(x:Edge)(b:Bool):Tie:=(x.1,x.2.1,0,b,())
def Qq(ts:List Tie)(xs:List Edge)(bs:List Bool)(k:Nat):List Tie:=(List.range k).foldl (fun a i=>SR a (XF (xs.getD i (0,0,())) (bs.getD i false))) ts
end Go.Pev.Pl
end
section
namespace Go.Pev.Pl
open Tok
def AH4(xs:List Edge)(bs:List Bool)(k:Nat):List Tie:=(List.range k).map fun i=>XF (xs.getD i (0,0,())) (bs.getD i false)
theorem YF(ts:List Tie)(xs:List Edge)(bs:List Bool)(k:Nat):Qq ts xs bs (k+1)=SR (Qq ts xs bs k) (XF (xs.getD k (0,0,())) (bs.getD k false)):=by
 unfold Qq
 rw[AV9,List.foldl_append]
 rfl
theorem O0(ts:List Tie)(xs:List Edge)(bs:List Bool):∀ k,(Qq ts xs bs k).Perm (ts++AH4 xs bs k):=by
 intro k
 induction k with
 |zero=>simp[Qq,AH4]
 |succ k ih=>
  rw[YF]
  refine(XQ _ _).trans ?_
  unfold AH4 at *
  rw[AV9,AWR,← AV4]
  refine(List.Perm.cons _ ih).trans ?_
  exact(List.perm_append_singleton _ _).symm
end Go.Pev.Pl
end
section
namespace Go.Pev.Pl
open Tok
theorem ARY{N:Nat}{ts:List Tie}(h:oks N ts)(hv0:0≤F7 N){xs:List Edge}(bs:List Bool)(hp:xs.Pairwise ABr)(hx:∀ e∈xs,0≤e.1∧e.1<e.2.1∧e.2.1<(N:Int))(hn:∀ e∈xs,¬ e∈ts.map ed):oks N (Qq ts xs bs xs.length):=by
 rw[Lt]at h ⊢
 obtain⟨h1,h2⟩:=h
 have hget:∀ i (hi:i<xs.length),xs.getD i (0,0,())=xs[i]:=fun i hi=>by
  simp only[AUv,AUx hi,AVb]
 have hmem:∀ k,k≤xs.length→∀ t∈Qq ts xs bs k,t∈ts∨∃ i,i<k∧t=XF (xs.getD i (0,0,())) (bs.getD i false):=by
  intro k hk t ht
  rcases AUt.1 ((O0 ts xs bs k).mem_iff.1 ht)with h|h
  ·exact .inl h
  ·unfold AH4 at h
   obtain⟨i,hi,rfl⟩:=AVD.1 h
   exact .inr ⟨i,by simpa using hi,rfl⟩
 refine⟨fun t ht => ?_,?_⟩
 ·rcases hmem _ (AU1 _) t ht with h|⟨i,hi,rfl⟩
  ·exact h1 t h
  ·rw[hget i hi]
   obtain⟨q1,q2,q3⟩:=hx xs[i] (AWe hi)
   exact⟨q1,q2,q3,by show(0:Int)≤0;omega,hv0⟩
 ·have key:∀ k,k≤xs.length→(Qq ts xs bs k).Pairwise ahead:=by
   intro k
   induction k with
   |zero=>intro _;exact h2
   |succ k ih=>
    intro hk
    rw[YF]
    refine AL6 (ih (by omega)) fun t ht => ?_
    rw[hget k (by omega)]
    rintro⟨e1,e2⟩
    rcases hmem k (by omega) t ht with h|⟨i,hi,rfl⟩
    ·refine hn xs[k] (AWe (by omega)) (AVD.2 ⟨t,h,?_⟩)
     unfold ed
     rw[e1,e2]
     rfl
    ·rw[hget i (by omega)]at e1 e2
     have:=(AVa.1 hp) i k (by omega) (by omega) hi
     unfold ABr at this
     simp only[XF]at e1 e2
     omega
  exact key _ (AU1 _)
end Go.Pev.Pl
end
section
namespace Go.Pev.Pl
open Tok
theorem AOX(ts:List Tie):∀ k,k≤ts.length→trs ts k=((ts.take k).filter fun t=>t.2.2.2.1).map ed:=by
 intro k
 induction k with
 |zero=>intro _;simp[trs]
 |succ k ih=>
  intro hk
  have hk':k<ts.length:=by omega
  rw[Rk,ih (by omega),AWW hk',AXI,AWR]
  simp only[AUv,AUx hk',AVb]
  cases h:ts[k].2.2.2.1
  ·simp[h]
  ·simp[h]
theorem AJ8(ts:List Tie):trs ts ts.length=(ts.filter fun t=>t.2.2.2.1).map ed:=by
 rw[AOX ts _ (AU1 _),AWs]
end Go.Pev.Pl
end
section
namespace Go.Pev.Pl
open Tok
theorem AQD{xs:List Edge}{bs:List Bool}(h:bs.length=xs.length):AH4 xs bs xs.length=(xs.zip bs).map fun p=>XF p.1 p.2:=by
 unfold AH4
 apply List.ext_getElem
 ·simp[h]
 ·intro i h1 h2
  have hi:i<xs.length:=by simpa using h1
  simp[hi,show i<bs.length by omega]
theorem ARX(ts:List Tie){xs:List Edge}{bs:List Bool}(h:bs.length=xs.length):(trs (Qq ts xs bs xs.length) (Qq ts xs bs xs.length).length).Perm (trs ts ts.length++sel xs bs):=by
 rw[AJ8,AJ8]
 refine(((O0 ts xs bs xs.length).filter _).map ed).trans ?_
 rw[AXI,AWR,AQD h,List.filter_map,List.map_map]
 exact List.Perm.refl _
theorem ARZ(ts:List Tie)(xs:List Edge)(bs:List Bool):∀ k,(Qq ts xs bs k).length=ts.length+k:=by
 intro k
 rw[(O0 ts xs bs k).length_eq]
 simp[AH4]
end Go.Pev.Pl
end
end
section
section
namespace Go.Pev.Pl
open Tok
theorem ARN{N:Nat}(hN:N≤64)(ts:List Tie)(l:List Edge):∀ e∈He N ts l,In (N:Int) e.1∧In (N:Int) e.2.1:=by
 intro e he
 obtain⟨⟨a,b,c,_⟩,_⟩:=(Nz N ts l e).1 he
 exact⟨⟨by omega,by omega,a,by omega⟩,⟨by omega,by omega,by omega,c⟩⟩
end Go.Pev.Pl
end
section
namespace Go.Pev.Pl
open Tok
theorem ATb{N:Nat}(h1:1≤N)(hN:N≤64){a:Int}(h:0≤a∧a<(N:Int)):In (N:Int) a:=⟨by omega,by omega,h.1,h.2⟩
theorem AT7{N:Nat}{e:Edge}(h:In (N:Int) e.1∧In (N:Int) e.2.1):InE N e:=⟨⟨h.1.2.2.1,h.1.2.2.2⟩,⟨h.2.2.2.1,h.2.2.2.2⟩⟩
theorem AUI{N:Nat}(h1:1≤N)(hN:N≤64){l:List Edge}{out:List Int}(hc:PK (N:Int) l out):cnt out N=cc N l:=by
 unfold cnt cc
 rw[List.countP_eq_length_filter]
 congr 1
 refine List.filter_congr fun k hk => ?_
 have hk:k<N:=by simpa using hk
 have ik:=ATb h1 hN (a:=(k:Int)) ⟨by omega,by omega⟩
 have hg:out.getD k 0=cl out (k:Int):=by unfold cl;rw[AVq]
 rw[hg,AWg,AVX,GJ]
 constructor
 ·intro h j hj hcn
  have:=hc.least (k:Int) (j:Int) ik (ATb h1 hN ⟨by omega,by omega⟩) hcn.symm
  omega
 ·intro h
  have a1:=hc.isin _ ik
  have a2:=hc.con _ ik
  have a3:=hc.least (k:Int) (k:Int) ik ik (.refl _)
  obtain⟨m,hm⟩:=AUz a1.2.2.1
  rw[hm]at a2 a3 ⊢
  by_cases hlt:m<k
  ·exact absurd a2.symm (h m hlt)
  ·omega
theorem FC.congr{n:Int}{rings:List (List Int)}{l l':List Edge}(h:FC n rings l)(hm:∀ e∈l,e∈l')(hc:∀ e∈l',Con l e.1 e.2.1):FC n rings l':=
 ⟨h.fr,fun a b ia ib=>(h.sam a b ia ib).trans ⟨fun c=>c.sub hm,fun c=>c.cut hc⟩,fun A hA u v ho hu=>by
  obtain⟨e,he,q⟩:=h.arcs A hA u v ho hu
  exact⟨e,hm e he,q⟩⟩
theorem AC5{N:Nat}(h1:1≤N)(hN:N≤64){ts:List Tie}(hs:ts.length≤400)(ho:oks N ts):Fa (((N:Int),(ts,())),())=some (true,())↔Fo N (trs ts ts.length):=by
 have hlen:=Ya ts ts.length
 obtain⟨o,_,c⟩:=E1 (N:Int) (trs ts ts.length) ⟨by omega,by omega⟩ (by omega) (AGM hN ho)
 rw[AC6 h1 hN hs ho c,AUI h1 hN c]
 unfold Fo
 constructor
 ·intro h
  have:decide ((cc N (trs ts ts.length):Int)=(N:Int)-(trs ts ts.length).length)=true:=by injection h with h;injection h
  have:=AWP this
  omega
 ·intro h
  rw[AUr (by omega)]
end Go.Pev.Pl
end
section
namespace Go.Pev.Pl
open Tok
end Go.Pev.Pl
end
section
namespace Go.Pev.Pl.SE
open Go.Sort
def ok(_:Int×Int×Unit):Prop:=True
def okz:Int×Int×Unit:=(0,0,())
theorem TK:ok okz:=trivial
def lt(x y:Int×Int×Unit):Bool:=decide (x.1<y.1∨(x.1=y.1∧x.2.1<y.2.1))
theorem swo:SWO lt:=⟨fun x=>by simp[lt],fun x y z h1 h2=>by simp only[lt,AUs]at *;omega,fun x y z h1 h2=>by simp only[lt,AVk]at *;omega⟩
end Go.Pev.Pl.SE
end
section
namespace Go.Pev.Pl.ST
open Go.Sort
def ok(_:Int×Int×Int×Bool×Unit):Prop:=True
def okz:Int×Int×Int×Bool×Unit:=(0,0,0,false,())
theorem TK:ok okz:=trivial
def lt(x y:Int×Int×Int×Bool×Unit):Bool:=decide (x.1<y.1∨(x.1=y.1∧x.2.1<y.2.1))
theorem swo:SWO lt:=⟨fun x=>by simp[lt],fun x y z h1 h2=>by simp only[lt,AUs]at *;omega,fun x y z h1 h2=>by simp only[lt,AVk]at *;omega⟩
end Go.Pev.Pl.ST
end
section
namespace Go.Pev.Pl
open Tok
section
variable {α β:Type} [DecidableEq α]
end
end Go.Pev.Pl
end
section
namespace Go.Pev.Pl
open Tok
theorem ARy:∀ (xs b:List Edge),sel xs (gfl b xs)=Ia b xs:=by
 intro xs
 induction xs with
 |nil=>intro b;rfl
 |cons x xs ih=>
  intro b
  have:=ih (b++[x])
  unfold sel at *
  rw[gfl,Ia,List.zip_cons_cons,AWI]
  by_cases h:KF b x.1 x.2.1=true
  ·simp[h,this]
  ·simp[h,this]
theorem ATT{N:Nat}{b xs:List Edge}(h:Fo N b)(hx:∀ e∈xs,InE N e):Fo N (b++Ia b xs):=by
 have h1:=J5 xs b hx
 have h2:cc N (b++xs)=cc N (b++Ia b xs):=VN fun a c=>VH xs b
 unfold Fo at *
 rw[AU6]
 omega
theorem PM{N:Nat}(hN:N≤64):0≤F7 N:=by
 have:((List.range 65).all fun k=>decide (0≤F7 k))=true:=by kernel_rfl
 exact AWP (AVC.1 this N (by simp;omega))
noncomputable def grown(N:Nat)(ts:List Tie)(l:List Edge):List Tie:=Qq ts (He N ts l) (gfl (trs ts ts.length) (He N ts l)) (He N ts l).length
theorem ANX(N:Nat)(ts:List Tie)(l:List Edge):(grown N ts l).length=ts.length+(He N ts l).length:=ARZ ..
theorem ANV(N:Nat)(ts:List Tie)(l:List Edge):(trs (grown N ts l) (grown N ts l).length).Perm (trs ts ts.length++Ia (trs ts ts.length) (He N ts l)):=by
 have:=ARX ts (xs:=He N ts l) (bs:=gfl (trs ts ts.length) (He N ts l)) (AS8 _ _)
 rw[ARy]at this
 exact this
theorem ANW{N:Nat}(hN:N≤64){ts:List Tie}(ho:oks N ts)(l:List Edge):oks N (grown N ts l):=
 ARY ho (PM hN) _ (AJa N ts l) (fun e he=>by
  obtain⟨⟨a,b,c,_⟩,_⟩:=(Nz N ts l e).1 he
  exact⟨a,b,c⟩) (fun e he=>((Nz N ts l e).1 he).2)
theorem ANv{N:Nat}(hN:N≤64)(ts:List Tie)(l:List Edge):∀ e∈He N ts l,InE N e:=fun e he=>AT7 (ARN hN ts l e he)
theorem AQt{N:Nat}(hN:N≤64){ts:List Tie}(h:Fo N (trs ts ts.length))(l:List Edge):Fo N (trs (grown N ts l) (grown N ts l).length):=
 (ATT h (ANv hN ts l)).perm (ANV N ts l).symm
structure RG2(N:Nat)(ts:List Tie):Prop where
 h1:1≤N
 hN:N≤64
 ht:ts.length≤400
 oks:oks N ts
 fo:Fo N (trs ts ts.length)
theorem RG2.r21{N:Nat}{ts:List Tie}(h:RG2 N ts):Fa (((N:Int),(ts,())),())=some (true,()):=(AC5 h.h1 h.hN h.ht h.oks).2 h.fo
theorem RG2.lr{N:Nat}{ts:List Tie}(h:RG2 N ts):FN (((N:Int),(ts,())),())=some (true,()):=by
 obtain⟨b,h1,h2,_⟩:=VX (N:Int) ts (by have:=h.ht;omega)
 rw[h.r21]at h1
 cases h1
 exact h2
theorem ALy(n:Int)(ts:List Tie)(hl:ts.length<4611686018427387904):(Fa ((n,(ts,())),())=some (false,())∧FN ((n,(ts,())),())=some (false,()))∨∃ N:Nat,n=(N:Int)∧RG2 N ts:=by
 obtain⟨b,h1,h2,h3⟩:=VX n ts hl
 cases b
 ·exact .inl ⟨h1,h2⟩
 ·obtain⟨N,rfl,q1,q2,q3,q4⟩:=h3 rfl
  exact .inr ⟨N,rfl,q1,q2,q3,q4,(AC5 q1 q2 q3 q4).1 h1⟩
theorem RG2.inE{N:Nat}{ts:List Tie}(h:RG2 N ts):∀ e∈ts.map ed,In (N:Int) e.1∧In (N:Int) e.2.1:=AUE h.hN h.oks
theorem RG2.grown{N:Nat}{ts:List Tie}(h:RG2 N ts){l:List Edge}(hf:ts.length+(He N ts l).length≤400):RG2 N (grown N ts l):=
 ⟨h.h1,h.hN,by rw[ANX];exact hf,ANW h.hN h.oks l,AQt h.hN h.fo l⟩
end Go.Pev.Pl
end
section
namespace Go.Pev.Pl
open Tok
def D5(u v:Int)(t:Tie):Bool:=decide (t.1=min u v∧t.2.1=max u v)
end Go.Pev.Pl
end
end
section
namespace Go.Pev.Pl
open Tok
theorem AOa(ts:List Tie)(t:Tie)(k:Int):trk (ts++[t]) k=trk ts k++if t.2.2.2.1=true∧k≤t.2.2.1 then [ed t]else []:=by
 rw[Cq]
 congr 1
 unfold trk
 rw[AWI]
 by_cases h:t.2.2.2.1=true∧k≤t.2.2.1
 ·rw[AU4 h,h.1,AUr h.2];rfl
 ·rw[AUy h,AUy]
  ·rfl
  ·rw[AUu,AUs];exact h
theorem AOb(k:Int):∀ (ts a:List Tie) (acc:List Edge),acc=trk a k→ts.foldl (fun acc t=>if t.2.2.2.1=true∧k≤t.2.2.1 then acc++[ed t]else acc) acc=trk (a++ts) k:=by
 intro ts
 induction ts with
 |nil=>intro a acc h;simpa using h
 |cons t ts ih=>
  intro a acc h
  rw[AVo,ih (a++[t])]
  ·simp
  ·rw[AOa,← h]
   split<;>simp
theorem ARk(ts:List Tie)(k:Int):(trk ts k).length≤ts.length:=by
 unfold trk
 rw[AWS]
 exact List.length_filter_le _ _
theorem ARj(ts:List Tie)(k:Int):∀ e∈trk ts k,e∈ts.map ed:=by
 intro e he
 obtain⟨t,h1,_,_,rfl⟩:=CW.1 he
 exact AVD.2 ⟨t,h1,rfl⟩
theorem AQJ(n:Int)(ts:List Tie)(hs:ts.length≤400)(k:Int):Kl ((n,(ts,())),k,())=some (trk ts k,()):=by
 rw[OC,I6]
 have e:=EH (step:=CK) (fun i (a:List Edge)=>(k,a,ts,AQ ts,(i:Int),())) ts (fun t a=>.inl (if t.2.2.2.1=true∧k≤t.2.2.1 then a++[ed t]else a)) (fun a=>.inl (a,())) (fun i a=>a.length≤i) (by omega)
  (fun i x a hi hx ha=>by
   refine⟨fun m' h' => ?_,fun r h'=>(by cases h')⟩
   cases h'
   constructor
   ·rw[CK,AY,AR,AUr hi]
    simp only[Az hx,AY]
    rw[AK (by omega),Aw,DO (by simp only[AU0,AVU];omega)]
    cases h4:x.2.2.2.1
    ·simp
    ·by_cases h5:k≤x.2.2.1
     ·simp[h5,ed,Bt]
     ·simp[h5]
   ·split
    ·rw[AU6];simp;omega
    ·omega)
  (fun a _=>by rw[CK,AY,AR,AUp (by omega)]) [] (AU1 _)
 have e':AZ CK many (k,[],ts,AQ ts,(0:Int),())=_:=e
 simp only[e']
 rw[Bu (fun(t:Tie) (a:List Edge)=>if t.2.2.2.1=true∧k≤t.2.2.1 then a++[ed t]else a),AOb k ts [] [] rfl]
 rfl
theorem RG2.inK{N:Nat}{ts:List Tie}(h:RG2 N ts)(k:Int):∀ e∈trk ts k,In (N:Int) e.1∧In (N:Int) e.2.1:=fun e he=>h.inE e (ARj ts k e he)
theorem RG2.AUZ{N:Nat}{ts:List Tie}(h:RG2 N ts)(k:Int):(trk ts k).length≤400:=AVu (ARk ts k) h.ht
theorem RG2.AUj{N:Nat}{ts:List Tie}(h:RG2 N ts)(k:Int):∃ zs,Jw (((N:Int),(ts,())),k,())=some (((N:Int),(zs,())),0,())∧FC (N:Int) zs (trk ts k):=by
 have hl:=h.AUZ k
 have h1:=h.h1
 have hN:=h.hN
 rcases(AK4 (N:Int) (trk ts k) ⟨by omega,by omega⟩ (by omega)).symm with⟨hno,_⟩|⟨_,zs,e,hF⟩
 ·exact absurd (h.inK k) hno
 refine⟨zs,?_,hF⟩
 rw[Th,Jv]
 simp only[h.lr,AU7,AQJ (N:Int) ts h.ht k,e]
theorem RG2.AUf{N:Nat}{ts:List Tie}(h:RG2 N ts)(k:Int):∃ out,Fs ((N:Int),trk ts k,())=some (out,())∧PK (N:Int) (trk ts k) out:=by
 have:=h.AUZ k
 have h1:=h.h1
 have hN:=h.hN
 exact E1 (N:Int) (trk ts k) ⟨by omega,by omega⟩ (by omega) (h.inK k)
end Go.Pev.Pl
end
section
namespace Go.Pev.Pl
open Tok
def AUd(ts:List Tie):Prop:=∀ e∈ts.map ed,Con (trk ts 0) e.1 e.2.1
def AUm(ts:List Tie):Prop:=∀ t∈ts,t.2.2.2.1=false→Con (trk ts t.2.2.1) t.1 t.2.1
def AUe(N:Nat)(ts:List Tie):Prop:=∀ k:Nat,(k:Int)≤F7 N→∀ v:Nat,v<N→csz N (trk ts k) v≤max 1 (N/2 ^ k)
theorem RG2.tie{N:Nat}{ts:List Tie}(h:RG2 N ts){t:Tie}(ht:t∈ts):In (N:Int) t.1∧In (N:Int) t.2.1∧t.1<t.2.1∧0≤t.2.2.1∧t.2.2.1≤F7 N:=by
 have h1:=((Lt N ts).1 h.oks).1 t ht
 have h2:=h.inE (ed t) (AVD.2 ⟨t,ht,rfl⟩)
 exact⟨h2.1,h2.2,h1.2.1,h1.2.2.2.1,h1.2.2.2.2⟩
end Go.Pev.Pl
end
section
namespace Go.Pev.Pl
open Tok
def EJ(N:Nat):Nat:=(F7 N).toNat
theorem Qu{N:Nat}(hN:N≤64):F7 N=(EJ N:Int):=by
 have:=PM hN
 unfold EJ
 omega
theorem AJ9{N:Nat}(hN:N≤64):EJ N<64:=by
 have:((List.range 65).all fun k=>decide (F7 k<64))=true:=by kernel_rfl
 have h1:=AWP (AVC.1 this N (by simp;omega))
 have:=Qu hN
 omega
theorem AOM(n:Nat)(h:n<18446744073709551616):IntKind.wrap .u64 (n:Int)=(n:Int):=IntWalk.u64_in _ (by omega)
theorem Snd.parts{N:Nat}{ts:List Tie}(h:RG2 N ts)(hs:Snd N (EJ N:Int) ts):AUd ts∧AUm ts∧AUe N ts:=by
 refine⟨fun e he=>(hs.span _ _).1 (.edge e he),hs.lie,fun k hk v hv=>hs.halv k (by rw[← Qu h.hN];exact hk) v hv⟩
end Go.Pev.Pl
end
section
namespace Go.Pev.Pl
open Tok
theorem ARl{N:Nat}(hN:N≤64):N/2 ^ EJ N≤1:=by
 have:((List.range 65).all fun k=>decide (k/2 ^ EJ k≤1))=true:=by kernel_rfl
 exact AWP (AVC.1 this N (by simp;omega))
theorem RG2.below{N:Nat}{ts:List Tie}(h:RG2 N ts)(hs:Snd N (EJ N:Int) ts){t:Tie}(ht:t∈ts):t.2.2.1<(EJ N:Int):=
 hs.below (ARl h.hN) ht (by have:=(h.tie ht).2.2.1;omega)
end Go.Pev.Pl
end
section
namespace Go.Pev.Pl
open Tok
end Go.Pev.Pl
end
section
namespace Go.Pev.Pl
open Tok
end Go.Pev.Pl
end
section
namespace Go.Pev.Pl
open Tok
end Go.Pev.Pl
end
section
namespace Go.Pev.Pl
open Tok
def bef(x y:Tie):Prop:=y.2.2.1<x.2.2.1∨(x.2.2.1=y.2.2.1∧ahead x y)
theorem bef.trans{x y z:Tie}(h:bef x y)(h':bef y z):bef x z:=by
 unfold bef ahead at *
 omega
def Mrg(u v w:List Tie):Prop:=w.Perm (u++v)∧w.Pairwise bef
end Go.Pev.Pl
end
section
namespace Go.Pev.Pl
open Tok
noncomputable section
end
theorem Mrg.append{u1 u2 v1 v2 w1 w2:List Tie}(h1:Mrg u1 v1 w1)(h2:Mrg u2 v2 w2)(hu:(u1++u2).Pairwise bef)(hv:(v1++v2).Pairwise bef)(c1:∀ x∈u1,∀ y∈v2,bef x y)(c2:∀ y∈v1,∀ x∈u2,bef y x):Mrg (u1++u2) (v1++v2) (w1++w2):=by
 rw[AXB]at hu hv
 refine⟨?_,?_⟩
 ·refine(h1.1.append h2.1).trans ?_
  rw[AV4,AV4]
  refine List.Perm.append_left _ ?_
  rw[← AV4,← AV4]
  exact List.Perm.append_right _ AWh
 ·rw[AXB]
  refine⟨h1.2,h2.2,fun x hx y hy => ?_⟩
  have hx:=AUt.1 (h1.1.mem_iff.1 hx)
  have hy:=AUt.1 (h2.1.mem_iff.1 hy)
  rcases hx with hx|hx<;>rcases hy with hy|hy
  ·exact hu.2.2 x hx y hy
  ·exact c1 x hx y hy
  ·exact c2 x hx y hy
  ·exact hv.2.2 x hx y hy
end Go.Pev.Pl
end
section
namespace Go.Pev.Pl
open Tok
end Go.Pev.Pl
end
section
namespace Go.Pev.Pl
open Tok
end Go.Pev.Pl
end
section
namespace Go.Pev.Pl
open Tok
def lvl(ts:List Tie)(k:Int):List Tie:=ts.filter fun t=>decide (t.2.2.1=k)
end Go.Pev.Pl
end
section
namespace Go.Pev.Pl
open Tok
section
variable (n:Int) (ts:List Tie)
end
end Go.Pev.Pl
end
section
namespace Go.Pev.Pl
open Tok
def mid(f:Int→Int)(xs:List Int)(i:Nat):List Int:=(xs.take i).map f++xs.drop i
def lb(at0:List Int)(v:Int):Int:=at0.getD v.toNat 0
end Go.Pev.Pl
end
section
namespace Go.Pev.Pl
open Tok
end Go.Pev.Pl
end
section
namespace Go.Pev.Pl
section
variable {α β:Type} [DecidableEq α]
theorem AIV(es:List (α×β))(k:α)(v:β)(j:α):AL (Ab es k v) j=if j=k then some v else AL es j:=by
 induction es with
 |nil=>
  simp only[Ab,AL]
  by_cases h:j=k
  ·rw[AU4 h,AU4 h.symm]
  ·rw[AUy h,AUy (AVW h)]
 |cons e es ih=>
  obtain⟨a,x⟩:=e
  by_cases h1:a=k
  ·subst h1
   simp only[Ab,AL,AVM]
   by_cases h:j=a
   ·rw[AU4 h,AU4 h.symm]
   ·rw[AUy h,AUy (AVW h),AUy (AVW h)]
  ·simp only[Ab,AL,h1,AU3,ih]
   by_cases h:a=j
   ·subst h
    rw[AU4 rfl,AUy h1,AU4 rfl]
   ·rw[AUy h,AUy h]
theorem XS:∀ (es:List (α×β)) (k:α),DM es k=none→∀ v,Ab es k v=es++[(k,v)]:=by
 intro es
 induction es with
 |nil=>intro k _ v;rfl
 |cons e es ih=>
  intro k h v
  obtain⟨a,b⟩:=e
  by_cases hk:a=k
  ·simp[DM,hk]at h
  ·simp only[DM,hk,AU3,AXP]at h
   simp only[Ab,hk,AU3,ih k h v,AVG]
theorem XR:∀ (es:List (α×β)) (k:α) (n:Nat),DM es k=some n→∀ v,n<es.length∧Ab es k v=es.modify n fun e=>(e.1,v):=by
 intro es
 induction es with
 |nil=>intro k n h;simp[DM]at h
 |cons e es ih=>
  intro k n h v
  obtain⟨a,b⟩:=e
  by_cases hk:a=k
  ·simp only[DM,hk,AVM,AUq]at h
   subst h
   simp[Ab,hk]
  ·simp only[DM,hk,AU3,AU8]at h
   obtain⟨m,hm,rfl⟩:=h
   obtain⟨h1,h2⟩:=ih k m hm v
   simp only[Ab,hk,AU3,AU0]
   exact⟨by omega,by rw[h2];rfl⟩
theorem TM(es:List (α×β))(k:α)(z v:β):(ile (0:Int) (KZ es k)&&ilt (KZ es k) (AQ (Ab es k z)))=true∧AH9 (Ab es k z) (KZ es k) v=Ab es k v:=by
 rw[Aw,An]
 unfold KZ AH9
 cases h:DM es k with
 |none=>
  rw[XS es k h,XS es k h,Option.getD_none,AVq]
  constructor
  ·rw[AUr (by omega),AUr (by rw[AY,AU6];simp;omega)];rfl
  ·have:∀ (xs:List (α×β)),(xs++[(k,z)]).modify xs.length (fun e=>(e.1,v))=xs++[(k,v)]:=by
    intro xs
    induction xs with
    |nil=>rfl
    |cons x xs ih=>rw[AVG,AU0,List.modify_succ_cons,ih];rfl
   exact this es
 |some n=>
  obtain⟨h1,h2⟩:=XR es k n h z
  obtain⟨_,h3⟩:=XR es k n h v
  rw[h2,h3,AVb,AVq]
  constructor
  ·rw[AUr (by omega),AUr (by rw[AY,List.length_modify];omega)];rfl
  ·apply AWm
   intro i
   simp only[List.getElem?_modify]
   cases es[i]? with
   |none=>split<;>rfl
   |some e=>split<;>rfl
end
end Go.Pev.Pl
end
section
namespace Go.Pev.Pl
open Tok
def EG(b:Bool)(ts:List Tie)(k:Int):Nat:=ts.countP fun t=>t.2.2.2.1==b&&decide (t.2.2.1=k)
def CN(b:Bool)(ts:List Tie)(n:Nat):List Int:=(List.range n).map fun(j:Nat)=>(EG b ts (j:Int):Int)
def bk(b:Bool):Int:=if b=true then 1 else 0
abbrev CM:=List ((Int×Int×Unit)×Int)
def Wz(m:CM)(b:Bool)(k:Int):Int:=(AL m (k,(bk b,()))).getD 0
def ANt(m:CM)(t:Tie):CM:=Ab m (t.2.2.1,(bk t.2.2.2.1,())) (Wz m t.2.2.2.1 t.2.2.1+1)
def ED(ts:List Tie):CM:=ts.foldl ANt []
theorem ANw(b:Bool)(ts:List Tie)(t:Tie)(k:Int):EG b (ts++[t]) k=EG b ts k+if t.2.2.2.1=b∧t.2.2.1=k then 1 else 0:=by
 unfold EG
 rw[List.countP_append,List.countP_singleton]
 congr 1
 by_cases h1:t.2.2.2.1=b
 ·by_cases h2:t.2.2.1=k<;>simp[h1,h2]
 ·simp[h1]
theorem AUK{a b:Bool}:bk a=bk b↔a=b:=by cases a<;>cases b<;>simp[bk]
theorem X4(ts:List Tie)(t:Tie):ED (ts++[t])=ANt (ED ts) t:=by
 unfold ED
 rw[List.foldl_append]
 rfl
theorem AN4(m:CM)(t:Tie)(b:Bool)(k:Int):Wz (ANt m t) b k=Wz m b k+if t.2.2.2.1=b∧t.2.2.1=k then 1 else 0:=by
 unfold ANt Wz
 rw[AIV]
 by_cases h:t.2.2.2.1=b∧t.2.2.1=k
 ·rw[AU4 h,h.1,h.2,AU4 rfl]
  rfl
 ·rw[AUy h,AUy,Int.add_zero]
  intro e
  simp only[AVH,and_true,AUK]at e
  exact h ⟨by first|exact e.2|exact e.2.symm,by first|exact e.1|exact e.1.symm⟩
theorem Oo(b:Bool)(k:Int)(ts:List Tie):Wz (ED ts) b k=(EG b ts k:Int):=by
 have gen:∀ (n:Nat) (xs:List Tie),xs.length=n→Wz (ED xs) b k=(EG b xs k:Int):=by
  intro n
  induction n with
  |zero=>
   intro xs h
   rw[List.length_eq_zero_iff.1 h]
   rfl
  |succ n ih=>
   intro xs h
   have hne:xs≠[]:=by rintro rfl;simp at h
   rw[← List.dropLast_concat_getLast hne,X4,AN4,ANw,ih _ (by rw[List.length_dropLast];omega)]
   split<;>simp
 exact gen _ _ rfl
theorem ABR(b:Bool)(ts:List Tie)(k:Int):EG b ts k≤ts.length:=List.countP_le_length
theorem Wl(N:Int)(ts:List Tie)(ht:ts.length≤400):
  AZ C0 many (N,ts,([]:CM),ts,AQ ts,(0:Int),())=some (.inl (N,ts,ED ts,())):=by
 have e:=P2 (step:=C0) (fun i=>(N,ts,ED (ts.take i),ts,AQ ts,(i:Int),())) ts (fun _=>false) (fun _=>.inl (N,ts,ED ts,())) (.inl (N,ts,ED ts,())) (by omega)
  (fun i x hi hx=>by
   have hxe:ts[i]=x:=by
    rw[AUx hi]at hx
    exact AV2 hx
   have htk:ts.take (i+1)=ts.take i++[x]:=by rw[AWW hi,hxe]
   have hle:∀ b k,Wz (ED (ts.take i)) b k≤400∧0≤Wz (ED (ts.take i)) b k:=fun b k=>by
    rw[Oo]
    have h1:=ABR b (ts.take i) k
    rw[AVJ]at h1
    omega
   rw[C0,AY,AR,AUr hi]
   simp only[Az hx]
   rw[AK (by omega),htk,X4]
   have hl:=hle x.2.2.2.1 x.2.2.1
   cases hb:x.2.2.2.1
   ·rw[hb]at hl
    unfold ANt
    rw[hb]
    unfold Wz at hl ⊢
    obtain⟨m1,m2⟩:=TM (ED (ts.take i)) (x.2.2.1,((0:Int),())) ((AL (ED (ts.take i)) (x.2.2.1,((0:Int),()))).getD 0) ((AL (ED (ts.take i)) (x.2.2.1,((0:Int),()))).getD 0+1)
    have hl':(AL (ED (ts.take i)) (x.2.2.1,((0:Int),()))).getD 0≤400∧0≤(AL (ED (ts.take i)) (x.2.2.1,((0:Int),()))).getD 0:=hl
    simp only[m1,Ah (n:=(AL (ED (ts.take i)) (x.2.2.1,((0:Int),()))).getD 0+1) (by omega),m2]
    rfl
   ·rw[hb]at hl
    unfold ANt
    rw[hb]
    unfold Wz at hl ⊢
    obtain⟨m1,m2⟩:=TM (ED (ts.take i)) (x.2.2.1,((1:Int),())) ((AL (ED (ts.take i)) (x.2.2.1,((1:Int),()))).getD 0) ((AL (ED (ts.take i)) (x.2.2.1,((1:Int),()))).getD 0+1)
    have hl':(AL (ED (ts.take i)) (x.2.2.1,((1:Int),()))).getD 0≤400∧0≤(AL (ED (ts.take i)) (x.2.2.1,((1:Int),()))).getD 0:=hl
    simp only[m1,Ah (n:=(AL (ED (ts.take i)) (x.2.2.1,((1:Int),()))).getD 0+1) (by omega),m2]
    rfl)
  (by rw[C0,AY,AR,AUp (by omega),AWs])
 have e':AZ C0 many (N,ts,([]:CM),ts,AQ ts,(0:Int),())=_:=e
 rw[e']
 simp
theorem VI(b:Bool)(ts:List Tie)(n:Nat):CN b ts (n+1)=CN b ts n++[(EG b ts (n:Int):Int)]:=by
 unfold CN
 rw[AV9,AWR]
 rfl
theorem Hf(b:Bool)(ts:List Tie)(n:Nat):(CN b ts n).length=n:=by simp[CN]
theorem Wk(ts:List Tie)(n:Nat)(hn:n≤1000):
  AZ CX many (([]:List Int),([]:List Int),ED ts,(n:Int),(0:Int),())=some (.inl (CN true ts n,CN false ts n,())):=by
 have e:=P2 (step:=CX) (fun i=>(CN true ts i,CN false ts i,ED ts,(n:Int),(i:Int),())) (List.range n) (fun _=>false) (fun _=>.inl (CN true ts n,CN false ts n,())) (.inl (CN true ts n,CN false ts n,())) (by simp;omega)
  (fun i x hi hx=>by
   have:=Dc hx
   subst this
   rw[AVS]at hi
   have c1:(AL (ED ts) ((x:Int),((1:Int),()))).getD 0=(EG true ts (x:Int):Int):=Oo true (x:Int) ts
   have c0:(AL (ED ts) ((x:Int),((0:Int),()))).getD 0=(EG false ts (x:Int):Int):=Oo false (x:Int) ts
   rw[CX,AR,AUr hi]
   simp only[c1,c0,Og]
   rw[DO (by simp only[AY,Hf,AU0,AVU];omega),DO (by simp only[AY,Hf,AU0,AVU];omega),AK (by omega),VI,VI]
   rfl)
  (by rw[CX,AVS,AR,AUp (by omega)])
 have e':AZ CX many (([]:List Int),([]:List Int),ED ts,(n:Int),(0:Int),())=_:=e
 rw[e']
 simp
theorem AEo{N:Nat}{ts:List Tie}(h:RG2 N ts):Jy (((N:Int),(ts,())),())=some (CN true ts (EJ N+1),CN false ts (EJ N+1),()):=by
 have hT:=AJ9 h.hN
 have hTe:=Qu h.hN
 rw[Tu,Jx]
 have e0:=Wl (N:Int) ts h.ht
 simp only[h.lr,AU7,e0,TT N h.hN,hTe]
 rw[Ah (n:=(EJ N:Int)+1) (by omega)]
 have e1:AZ CX many (([]:List Int),([]:List Int),ED ts,(EJ N:Int)+1,(0:Int),())=_:=Wk ts (EJ N+1) (by omega)
 simp only[e1]
end Go.Pev.Pl
end
section
namespace Go.Pev.Pl
open Tok
theorem L9(p x:Tie):C1 (p,x,())=some (if ahead p x then -1 else if p.1=x.1∧p.2.1=x.2.1 then 0 else 1,()):=by
 rw[JC,GK]
 simp only[Mf,AKW]
 congr 2
 unfold ARO ahead
 repeat' split
 all_goals omega
theorem ARU{ts:List Tie}(ht:ts.length≤400)(hp:ts.Pairwise ahead)(g:Tie):∃ k:Nat,k≤ts.length∧(∀ j t,ts[j]? = some t→(j<k↔ahead t g)) ∧
  AOF (ts,g,())=some ((k:Int),match ts[k]? with|some t=>decide (t.1=g.1∧t.2.1=g.2.1)|none=>false,()):=by
 have hahead:∀ (i j:Nat) (t t':Tie),i≤j→ts[i]? = some t→ts[j]? = some t'→ahead t' g→ahead t g:=by
  intro i j t t' hij h1 h2 h3
  by_cases e:i=j
  ·subst e
   rw[h1]at h2
   cases h2
   exact h3
  ·have hj:=(AVO.1 h2).1
   have hi:=(AVO.1 h1).1
   have:=AVa.1 hp i j hi hj (by omega)
   rw[(AVO.1 h1).2,(AVO.1 h2).2]at this
   exact this.trans h3
 obtain⟨g1,g2,g3,g4,⟨⟩⟩:=g
 obtain⟨k,_,k2,k3,k4,k5⟩:=AUk (step:=IC) (fun i j=>(ts,g1,g2,g3,g4,(ts.length:Int),(i:Int),(j:Int),())) (fun i=>match ts[i]? with|some t=>decide (ahead t (g1,g2,g3,g4,()))|none=>false)
  (fun i=>.inl (ts,g1,g2,g3,g4,(ts.length:Int),(i:Int),())) 0 ts.length (AWx _) (by omega)
  (fun i j _ hij hj=>by
   have hm:(i+j)/2<ts.length:=by omega
   have hx:ts[(i+j)/2]? = some ts[(i+j)/2]:=by simp[hm]
   have hs:shr? .u64 (((i+j:Nat)):Int) (1:Int)=some (((i+j)/2:Nat):Int):=Q2 (i+j) 1 (by omega)
   rw[IC,AR,AUr hij]
   simp only[]
   rw[show((i:Int)+(j:Int))=((i+j:Nat):Int) by omega,Ah (n:=((i+j:Nat):Int)) (by omega),AOM (i+j) (by omega)]
   simp only[hs,Ah (n:=(((i+j)/2:Nat):Int)) (by omega),Az hx]
   have hc:=L9 ts[(i+j)/2] (g1,g2,g3,g4,())
   have hc':C1 (((ts[(i+j)/2]).1,((ts[(i+j)/2]).2.1,((ts[(i+j)/2]).2.2.1,((ts[(i+j)/2]).2.2.2.1,())))),(g1,(g2,(g3,(g4,())))),())=_:=hc
   simp only[hc',hx]
   by_cases ha:ahead ts[(i+j)/2] (g1,g2,g3,g4,())
   ·simp only[AU4 ha,AUr ha,AVM]
    rw[An,AUr (by omega),AK (by omega)]
   ·simp only[AUy ha,AUp ha]
    rw[An,AUp (by split<;>omega)]
    rfl)
  (fun i _ _=>by rw[IC,AR,AUp (by omega)])
  (fun x y _ hxy hy h=>by
   have hx':x<ts.length:=by omega
   have e1:ts[x]? = some ts[x]:=by simp[hx']
   have e2:ts[y]? = some ts[y]:=by simp[hy]
   simp only[e2,AVX]at h
   simp only[e1,AVX]
   exact hahead x y _ _ hxy e1 e2 h)
 refine⟨k,k2,fun j t hj => ?_,?_⟩
 ·have hjl:=(AVO.1 hj).1
  constructor
  ·intro h
   have:=k3 j (AWx _) h
   simpa [hj]using this
  ·intro h
   refine AVn fun hn => ?_
   have:=k4 j (by omega) hjl
   simp[hj]at this
   exact this h
 ·rw[ALH,ABk]
  have k5':AZ IC many (ts,g1,g2,g3,g4,AQ ts,(0:Int),AQ ts,())=_:=k5
  simp only[k5']
  by_cases hk:k<ts.length
  ·have hx:ts[k]? = some ts[k]:=by simp[hk]
   have hna:¬ ahead ts[k] (g1,g2,g3,g4,()):=by
    have:=k4 k (AU1 _) hk
    simpa [hx]using this
   have hc:=L9 ts[k] (g1,g2,g3,g4,())
   have hc':C1 (((ts[k]).1,((ts[k]).2.1,((ts[k]).2.2.1,((ts[k]).2.2.2.1,())))),(g1,(g2,(g3,(g4,())))),())=_:=hc
   rw[AR,AUr hk]
   simp only[Az hx,hc',hx,AUy hna,BS]
   by_cases he:(ts[k]).1=g1∧(ts[k]).2.1=g2
   ·simp only[AU4 he,AUr he,AU2]
   ·simp only[AUy he,AUp he]
    rfl
  ·have hx:ts[k]? = none:=AVV (by omega)
   rw[AR,AUp hk]
   simp only[hx]
theorem AM2{N:Nat}{ts:List Tie}(h:RG2 N ts)(u v:Int):Ti (((N:Int),(ts,())),u,v,())=some (if ts.any (D5 u v)then((ts.findIdx (D5 u v):Nat):Int)else -1,()):=by
 have hp:=((Lt N ts).1 h.oks).2
 obtain⟨k,k1,k2,k3⟩:=ARU h.ht hp (min u v,max u v,0,false,())
 rw[AEi,RD]
 simp only[h.lr,AU7,Xk,Lw,ASy,ASz]
 have k3':AOF (ts,(min u v,(max u v,((0:Int),(false,())))),())=_:=k3
 simp only[k3']
 cases hx:ts[k]? with
 |none=>
  have hall:ts.any (D5 u v)=false:=by
   rw[List.any_eq_false]
   intro t ht hat
   obtain⟨j,hj,rfl⟩:=AVm ht
   have hj':ts[j]? = some ts[j]:=by simp[hj]
   have hjk:j<k:=by
    have:=List.getElem?_eq_none_iff.1 hx
    omega
   have ha:=(k2 j _ hj').1 hjk
   unfold D5 at hat
   rw[AVX]at hat
   unfold ahead at ha
   simp only at ha
   omega
  rw[hall]
  rfl
 |some t=>
  by_cases he:t.1=min u v∧t.2.1=max u v
  ·have hk:=(AVO.1 hx)
   obtain⟨hkl,hke⟩:=hk
   have hat:D5 u v t=true:=by unfold D5;rw[AVX];exact he
   have hany:ts.any (D5 u v)=true:=AWC.2 ⟨t,AU9 hx,hat⟩
   have hfi:ts.findIdx (D5 u v)=k:=by
    rw[List.findIdx_eq hkl,hke]
    refine⟨hat,fun j hj => ?_⟩
    have hj':ts[j]? = some ts[j]:=by simp
    have ha:=(k2 j _ hj').1 hj
    unfold D5
    rw[AVk]
    unfold ahead at ha
    simp only at ha
    omega
   simp only[AUr he,AU7]
   rw[hany,hfi]
   rfl
  ·have hall:ts.any (D5 u v)=false:=by
    rw[List.any_eq_false]
    intro t' ht' hat
    obtain⟨j,hj,rfl⟩:=AVm ht'
    have hj':ts[j]? = some ts[j]:=by simp[hj]
    unfold D5 at hat
    rw[AVX]at hat
    obtain⟨hkl,hke⟩:=AVO.1 hx
    rcases AWl j k with hjk|hjk|hjk
    ·have ha:=(k2 j _ hj').1 hjk
     unfold ahead at ha
     simp only at ha
     omega
    ·subst hjk
     rw[hke]at hat
     exact he hat
    ·have ha:=AVa.1 hp k j hkl hj hjk
     rw[hke]at ha
     have hna:¬ ahead t (min u v,max u v,0,false,()):=fun hh=>by
      have:=(k2 k t hx).2 hh
      omega
     unfold ahead at ha hna
     simp only at hna
     omega
   simp only[AUp he,AVg]
   rw[hall]
   rfl
end Go.Pev.Pl
end
section
namespace Go.Pev.Pl.SI
open Go.Sort
theorem Bj(x y:Int):DQ (x,y,())=some (ltInt x y,()):=by
 simp only[AEk,RE,Q9,Ny,An,EX,ltInt]
 by_cases h:x<y<;>simp[h]
theorem ASt(a b i:Nat):∀ (j:Nat) (d:Array Int) (n:Nat),j<d.size→d.size<4611686018427387904→j<n →
  AT Jz n (d.toList,(a:Int),(b:Int),(i:Int),(j:Int),())=some (.inl ((insInner ltInt a j d).toList,(a:Int),(b:Int),(i:Int),())):=by
 intro j
 induction j with
 |zero=>
  intro d n hj hs hn
  obtain⟨n,rfl⟩:∃ k,n=k+1:=⟨n-1,by omega⟩
  have h0:ilt (a:Int) ((0:Nat):Int)=false:=by rw[AR];simp
  simp only[AT,Jz,h0,insInner]
 |succ j ih=>
  intro d n hj hs hn
  obtain⟨n,rfl⟩:∃ k,n=k+1:=⟨n-1,by omega⟩
  have e1:IntKind.wrap .i64 (((j+1:Nat):Int)-1)=(j:Int):=by rw[Ah (by omega)];omega
  have hj':j<d.size:=by omega
  simp only[AT,Jz,AR,e1,Aa hj,Aa hj',Al hj,Al hj',Bj,insInner,AWZ]
  by_cases h1:a<j+1
  ·cases h2:ltInt d[j+1]! d[j]!
   ·simp only[h1,AU2,h2,Bool.and_false,AU5,AU3]
   ·simp only[h1,AU2,h2,Bool.and_true,AVM,CY]
    rw[Aa (by simpa using hj')]
    simp only[Ce]
    exact ih (swp d (j+1) j) n (by rw[size_swp];omega) (by rw[size_swp];omega) (by omega)
  ·simp only[h1,AVA,AWp,AU5,AU3]
theorem CE(lt:Int→Int→Bool)(a j:Nat)(d:Array Int):(insInner lt a j d).size=d.size:=by
 induction j generalizing d with
 |zero=>rfl
 |succ j ih=>
  rw[insInner]
  split
  ·rw[ih,size_swp]
  ·rfl
theorem AQc(a b:Nat):∀ (k i:Nat) (d:Array Int) (n:Nat),b-i=k→b≤d.size→d.size<4611686018427387904→d.size<many→k<n →
  AT J0 n (d.toList,(a:Int),(b:Int),(i:Int),())=some (.inl ((insOuter ltInt a b i d).toList,())):=by
 intro k
 induction k with
 |zero=>
  intro i d n hk hb hs hm hn
  obtain⟨n,rfl⟩:∃ k,n=k+1:=⟨n-1,by omega⟩
  have h0:¬ i<b:=by omega
  rw[insOuter]
  simp only[AT,J0,AR,h0,AVA,AU3]
 |succ k ih=>
  intro i d n hk hb hs hm hn
  obtain⟨n,rfl⟩:∃ k,n=k+1:=⟨n-1,by omega⟩
  have h0:i<b:=by omega
  have e1:IntKind.wrap .i64 ((i:Int)+1)=((i+1:Nat):Int):=by rw[Ah (by omega)];omega
  rw[insOuter]
  simp only[AT,J0,AR,h0,AU2,AVM,Ak]
  rw[ASt a b i i d many (by omega) hs (by omega)]
  simp only[e1]
  exact ih (i+1) _ n (by omega) (by rw[CE];omega) (by rw[CE];omega) (by rw[CE];omega) (by omega)
theorem AQb(d:Array Int)(a b:Nat)(hab:a≤b)(hb:b≤d.size)(hs:d.size<4294967296):ANI (d.toList,(a:Int),(b:Int),())=some ((insertionSort ltInt d a b).toList,()):=by
 have hm:d.size<many:=by simp only[many];omega
 have e1:IntKind.wrap .i64 ((a:Int)+1)=((a+1:Nat):Int):=by rw[Ah (by omega)];omega
 rw[AKv,AAp]
 simp only[e1,Ak]
 rw[AQc a b (b-(a+1)) (a+1) d many rfl hb (by omega) hm (by omega)]
 rfl
end Go.Pev.Pl.SI
end
section
namespace Go.Pev.Pl.SI
open Go.Sort
theorem AGk(hi first:Nat):∀ (k root:Nat) (d:Array Int) (n:Nat),hi-root=k→root≤hi→first+hi≤d.size→d.size<4294967296→(hi=0∨root<hi)→k<n →
  AT HN n (d.toList,(hi:Int),(first:Int),(root:Int),())=some (.inl ((siftDown ltInt hi first root d).toList,())) ∨
  AT HN n (d.toList,(hi:Int),(first:Int),(root:Int),())=some (.inr (.inl ((siftDown ltInt hi first root d).toList,()))):=by
 intro k
 induction k using Nat.strongRecOn with
 |_ k ih=>
 intro root d n hk hr hf hs hz hn
 obtain⟨n,rfl⟩:∃ k,n=k+1:=⟨n-1,by omega⟩
 rw[siftDown]
 simp (disch:=omega) only[AT,HN,NS,AK,wrap_add,BR,AR]
 by_cases h1:hi≤2*root+1
 ·simp only[h1,AU2,ge_iff_le,dite_true,true_or]
 ·have i0:first+root<d.size:=by omega
  have i1:first+(2*root+1)<d.size:=by omega
  simp only[h1,AVA,ge_iff_le,AU3,dite_false]
  simp (disch:=omega) only[Aa,Al,Bj]
  by_cases h2:2*root+1+1<hi
  ·have i2:first+(2*root+2)<d.size:=by omega
   have i3:2*root+1+1=2*root+2:=by omega
   have i4:first+(2*root+1)+1=first+(2*root+2):=by omega
   have h3:2*root+2<hi:=by omega
   simp only[i3,i4,h3,AU2]
   simp (disch:=omega) only[Aa,Al,Bj,CY]
   cases h4:ltInt d[first+(2*root+1)]! d[first+(2*root+2)]!
   ·simp only[Bool.and_false,AU5,AU3]
    cases h5:ltInt d[first+root]! d[first+(2*root+1)]!
    ·simp
    ·simp only[AU7,AU5,AU3]
     rw[Aa (by simpa using i1)]
     simp only[Ce]
     exact ih (hi-(2*root+1)) (by omega) (2*root+1) _ n rfl (by omega) (by rw[size_swp];omega) (by rw[size_swp];omega) (by omega) (by omega)
   ·simp only[Bool.and_true,AVM]
    cases h5:ltInt d[first+root]! d[first+(2*root+2)]!
    ·simp
    ·simp only[AU7,AU5,AU3,dite_true]
     rw[Aa (by simpa using i2)]
     simp only[Ce]
     exact ih (hi-(2*root+2)) (by omega) (2*root+2) _ n rfl (by omega) (by rw[size_swp];omega) (by rw[size_swp];omega) (by omega) (by omega)
  ·simp only[h2,AVA,AWp,AU5,AU3,CY]
   cases h5:ltInt d[first+root]! d[first+(2*root+1)]!
   ·simp
   ·simp only[AU7,AU5,AU3]
    rw[Aa (by simpa using i1)]
    simp only[Ce]
    exact ih (hi-(2*root+1)) (by omega) (2*root+1) _ n rfl (by omega) (by rw[size_swp];omega) (by rw[size_swp];omega) (by omega) (by omega)
theorem XI(d:Array Int)(root hi first:Nat)(hf:first+hi≤d.size)(hs:d.size<4294967296)(hz:hi=0∧root=0∨root<hi):XJ (d.toList,(root:Int),(hi:Int),(first:Int),())=some ((siftDown ltInt hi first root d).toList,()):=by
 have hm:d.size<many:=by simp only[many];omega
 rw[ACr,Q0]
 simp only[Ak]
 rcases AGk hi first (hi-root) root d many rfl (by omega) hf hs (by omega) (by omega)with h|h<;>rw[h]
theorem BN(lt:Int→Int→Bool)(hi first:Nat):∀ (k root:Nat) (d:Array Int),hi-root=k→(siftDown lt hi first root d).size=d.size:=by
 intro k
 induction k using Nat.strongRecOn with
 |_ k ih=>
 intro root d hk
 rw[siftDown]
 split
 ·rfl
 ·split
  ·split
   ·rfl
   ·split
    ·rw[ih (hi-(2*root+2)) (by omega) _ _ rfl,size_swp]
    ·rfl
  ·split
   ·rfl
   ·rw[ih (hi-(2*root+1)) (by omega) _ _ rfl,size_swp]
theorem AFD(hi first:Nat):∀ (k:Nat) (d:Array Int) (n:Nat),(hi=0∧k≤1∨k≤hi)→first+hi≤d.size→d.size<4294967296→k<n →
  AT HY n (d.toList,(first:Int),(0:Int),(hi:Int),(k:Int)-1,())=some (.inl ((heapBuild ltInt hi first k d).toList,(first:Int),(0:Int),(hi:Int),())):=by
 intro k
 induction k with
 |zero=>
  intro d n hk hf hs hn
  obtain⟨n,rfl⟩:∃ k,n=k+1:=⟨n-1,by omega⟩
  rw[AT,HY,Aw,AUp (by omega)]
  rfl
 |succ k ih=>
  intro d n hk hf hs hn
  obtain⟨n,rfl⟩:∃ k,n=k+1:=⟨n-1,by omega⟩
  have e0:((k+1:Nat):Int)-1=(k:Int):=by omega
  rw[AT,HY,e0,Aw,AUr (by omega)]
  simp only[XI d k hi first hf hs (by omega)]
  rw[Ah (by omega)]
  exact ih _ n (by omega) (by rw[BN _ _ _ _ _ _ rfl];omega) (by rw[BN _ _ _ _ _ _ rfl];omega) (by omega)
theorem Cs(lt:Int→Int→Bool)(hi first:Nat):∀ (k:Nat) (d:Array Int),(heapBuild lt hi first k d).size=d.size:=by
 intro k
 induction k with
 |zero=>intro d;rfl
 |succ k ih=>intro d;rw[heapBuild,ih,BN _ _ _ _ _ _ rfl]
theorem ANR(first:Nat):∀ (k:Nat) (d:Array Int) (n:Nat),first+k≤d.size→d.size<4294967296→k<n →
  AT HX n (d.toList,(first:Int),(0:Int),(k:Int)-1,())=some (.inl ((heapPop ltInt first k d).toList,())):=by
 intro k
 induction k with
 |zero=>
  intro d n hf hs hn
  obtain⟨n,rfl⟩:∃ k,n=k+1:=⟨n-1,by omega⟩
  rw[AT,HX,Aw,AUp (by omega)]
  rfl
 |succ k ih=>
  intro d n hf hs hn
  obtain⟨n,rfl⟩:∃ k,n=k+1:=⟨n-1,by omega⟩
  have e0:((k+1:Nat):Int)-1=(k:Int):=by omega
  have i0:first<d.size:=by omega
  have i1:first+k<d.size:=by omega
  rw[AT,HX,e0,Aw,AUr (by omega)]
  simp (disch:=omega) only[wrap_add,Aa,Al,CY]
  rw[Aa (by simpa using i1)]
  simp only[Ce]
  have:=XI (swp d first (first+k)) 0 k first (by rw[size_swp];omega) (by rw[size_swp];omega) (by omega)
  simp only[Int.natCast_zero]at this
  simp only[this]
  rw[Ah (by omega)]
  exact ih _ n (by rw[BN _ _ _ _ _ _ rfl,size_swp];omega) (by rw[BN _ _ _ _ _ _ rfl,size_swp];omega) (by omega)
theorem ANQ(d:Array Int)(a b:Nat)(hab:a<b)(hb:b≤d.size)(hs:d.size<4294967296):Xv (d.toList,(a:Int),(b:Int),())=some ((heapSort ltInt d a b).toList,()):=by
 have hm:4294967296<many:=by simp only[many];omega
 rw[AFC,RI]
 simp (disch:=omega) only[BQ,Af,ATa,Ak]
 have e:(((b-a-1)/2:Nat):Int)=(((b-a-1)/2+1:Nat):Int)-1:=by omega
 rw[e,AFD (b-a) a _ d many (by omega) (by omega) hs (by omega)]
 have e2:(((b-a-1:Nat)):Int)=((b-a:Nat):Int)-1:=by omega
 simp (disch:=omega) only[Af,e2]
 rw[ANR a (b-a) _ many (by rw[Cs];omega) (by rw[Cs];omega) (by omega)]
 rfl
end Go.Pev.Pl.SI
end
section
namespace Go.Pev.Pl.SI
open Go.Sort
theorem AL3:∀ (k i j:Nat) (d:Array Int) (n:Nat),j-i=k→(j<d.size)→d.size<4294967296→k<n →
  AT Lb n (d.toList,(i:Int),(j:Int),())=some (.inl ((reverseLoop i j d).toList,())):=by
 intro k
 induction k using Nat.strongRecOn with
 |_ k ih=>
 intro i j d n hk hj hs hn
 obtain⟨n,rfl⟩:∃ k,n=k+1:=⟨n-1,by omega⟩
 rw[reverseLoop,AT,Lb]
 simp only[AR]
 by_cases h:i<j
 ·have hi:i<d.size:=by omega
  simp only[h,AU2,AVM,Aa hj,Aa hi,Al hi,Al hj,CY]
  rw[Aa (by simpa using hj)]
  simp (disch:=omega) only[Ce,AK,Af]
  exact ih (j-1-(i+1)) (by omega) (i+1) (j-1) _ n rfl (by rw[size_swp];omega) (by rw[size_swp];omega) (by omega)
 ·simp only[h,AVA,AU3]
theorem APF(d:Array Int)(a b:Nat)(hab:a<b)(hb:b≤d.size)(hs:d.size<4294967296):AL4 (d.toList,(a:Int),(b:Int),())=some ((reverseRange d a b).toList,()):=by
 have hm:4294967296<many:=by simp only[many];omega
 rw[AKN,ZM]
 simp (disch:=omega) only[Af,Ak]
 rw[AL3 (b-1-a) a (b-1) d many rfl (by omega) hs (by omega)]
 rfl
theorem DK{d:Array Int}{i j:Nat}(hi:i<d.size)(hj:j<d.size):idx (Aj d.toList (AF (i:Int)) (AN d.toList (AF (j:Int)) 0)) (j:Int)=some (d.setIfInBounds i d[j]!)[j]! ∧
  Aj (Aj d.toList (AF (i:Int)) (AN d.toList (AF (j:Int)) 0)) (AF (j:Int)) (AN d.toList (AF (i:Int)) 0)=(swp d i j).toList:=by
 rw[Al hi,Al hj,CY,CY]
 exact⟨Aa (by simpa using hj),rfl⟩
theorem ZG(step:List Int×Int×Int×Int×Unit→Option ((List Int×Int×Int×Int×Unit)⊕(List Int×Int×Int×Int×Unit)⊕Unit))(p:Int→Bool)(d:Array Int)(a j:Nat)(hs:d.size<4294967296)(hj:j<d.size)
  (h:∀ i:Nat,i≤d.size→step (d.toList,(a:Int),(i:Int),(j:Int),())=if i≤j∧p d[i]! then some (.inl (d.toList,(a:Int),((i+1:Nat):Int),(j:Int),()))else some (.inr (.inl (d.toList,(a:Int),(i:Int),(j:Int),())))) :
  ∀ (k i n:Nat),j+1-i=k→i≤d.size→k<n→AT step n (d.toList,(a:Int),(i:Int),(j:Int),())=some (.inl (d.toList,(a:Int),((scanUp p d j i:Nat):Int),(j:Int),())):=by
 intro k
 induction k using Nat.strongRecOn with
 |_ k ih=>
 intro i n hk hi hn
 obtain⟨n,rfl⟩:∃ k,n=k+1:=⟨n-1,by omega⟩
 rw[scanUp,AT,h i hi]
 by_cases h1:i≤j∧p d[i]! = true
 ·rw[AU4 h1,AU4 (by simpa using h1)]
  exact ih (j+1-(i+1)) (by omega) (i+1) n rfl (by omega) (by omega)
 ·rw[AUy h1,AUy (by simpa using h1)]
theorem NZ(step:List Int×Int×Int×Int×Unit→Option ((List Int×Int×Int×Int×Unit)⊕(List Int×Int×Int×Int×Unit)⊕Unit))(p:Int→Bool)(d:Array Int)(a i:Nat)(hi:1≤i)
  (h:∀ j:Nat,j<d.size→step (d.toList,(a:Int),(i:Int),(j:Int),())=if i≤j∧p d[j]! then some (.inl (d.toList,(a:Int),(i:Int),((j-1:Nat):Int),()))else some (.inr (.inl (d.toList,(a:Int),(i:Int),(j:Int),())))) :
  ∀ (j n:Nat),j<d.size→j<n→AT step n (d.toList,(a:Int),(i:Int),(j:Int),())=some (.inl (d.toList,(a:Int),(i:Int),((scanDown p d i j:Nat):Int),())):=by
 intro j
 induction j with
 |zero=>
  intro n hj hn
  obtain⟨n,rfl⟩:∃ k,n=k+1:=⟨n-1,by omega⟩
  rw[AT,h 0 hj,AUy (by omega)]
  rfl
 |succ j ih=>
  intro n hj hn
  obtain⟨n,rfl⟩:∃ k,n=k+1:=⟨n-1,by omega⟩
  rw[scanDown,AT,h (j+1) hj]
  by_cases h1:i≤j+1∧p d[j+1]! = true
  ·rw[AU4 h1,AU4 (by simpa using h1)]
   exact ih n (by omega) (by omega)
  ·rw[AUy h1,AUy (by simpa using h1)]
section
variable (d:Array Int) (a i j:Nat) (hs:d.size<4294967296) (ha:a<d.size) (hj:j<d.size)
include hs ha hj
theorem AD3(hi:i≤d.size):Iy (d.toList,(a:Int),(i:Int),(j:Int),())=if i≤j∧(fun x=>ltInt x d[a]!) d[i]! = true then some (.inl (d.toList,(a:Int),((i+1:Nat):Int),(j:Int),()))else some (.inr (.inl (d.toList,(a:Int),(i:Int),(j:Int),()))):=by
 rw[Iy]
 simp only[BR]
 by_cases h:i≤j
 ·have hi':i<d.size:=by omega
  simp (disch:=omega) only[h,AU2,Aa,Al,Bj,AK,AWQ]
  cases ltInt d[i]! d[a]!<;>simp
 ·simp only[h,AVA,AWT,AU3]
theorem ADy(hi:i≤d.size):Iv (d.toList,(a:Int),(i:Int),(j:Int),())=if i≤j∧(fun x=>ltInt x d[a]!) d[i]! = true then some (.inl (d.toList,(a:Int),((i+1:Nat):Int),(j:Int),()))else some (.inr (.inl (d.toList,(a:Int),(i:Int),(j:Int),()))):=by
 rw[Iv]
 simp only[BR]
 by_cases h:i≤j
 ·have hi':i<d.size:=by omega
  simp (disch:=omega) only[h,AU2,Aa,Al,Bj,AK,AWQ]
  cases ltInt d[i]! d[a]!<;>simp
 ·simp only[h,AVA,AWT,AU3]
theorem AD1(hi:1≤i):Ix (d.toList,(a:Int),(i:Int),(j:Int),())=if i≤j∧(fun x => !ltInt x d[a]!) d[j]! = true then some (.inl (d.toList,(a:Int),(i:Int),((j-1:Nat):Int),()))else some (.inr (.inl (d.toList,(a:Int),(i:Int),(j:Int),()))):=by
 rw[Ix]
 simp only[BR]
 by_cases h:i≤j
 ·simp (disch:=omega) only[h,AU2,Aa,Al,Bj,Af,AWQ]
  cases ltInt d[j]! d[a]!<;>simp
 ·simp only[h,AVA,AWT,AU3]
theorem ADw(hi:1≤i):Iu (d.toList,(a:Int),(i:Int),(j:Int),())=if i≤j∧(fun x => !ltInt x d[a]!) d[j]! = true then some (.inl (d.toList,(a:Int),(i:Int),((j-1:Nat):Int),()))else some (.inr (.inl (d.toList,(a:Int),(i:Int),(j:Int),()))):=by
 rw[Iu]
 simp only[BR]
 by_cases h:i≤j
 ·simp (disch:=omega) only[h,AU2,Aa,Al,Bj,Af,AWQ]
  cases ltInt d[j]! d[a]!<;>simp
 ·simp only[h,AVA,AWT,AU3]
theorem WX(hi:i≤d.size):GF (d.toList,(a:Int),(i:Int),(j:Int),())=if i≤j∧(fun x => !ltInt d[a]! x) d[i]! = true then some (.inl (d.toList,(a:Int),((i+1:Nat):Int),(j:Int),()))else some (.inr (.inl (d.toList,(a:Int),(i:Int),(j:Int),()))):=by
 rw[GF]
 simp only[BR]
 by_cases h:i≤j
 ·have hi':i<d.size:=by omega
  simp (disch:=omega) only[h,AU2,Aa,Al,Bj,AK,AWQ]
  cases ltInt d[a]! d[i]!<;>simp
 ·simp only[h,AVA,AWT,AU3]
theorem WV(hi:1≤i):GD (d.toList,(a:Int),(i:Int),(j:Int),())=if i≤j∧(fun x=>ltInt d[a]! x) d[j]! = true then some (.inl (d.toList,(a:Int),(i:Int),((j-1:Nat):Int),()))else some (.inr (.inl (d.toList,(a:Int),(i:Int),(j:Int),()))):=by
 rw[GD]
 simp only[BR]
 by_cases h:i≤j
 ·simp (disch:=omega) only[h,AU2,Aa,Al,Bj,Af,AWQ]
  cases ltInt d[a]! d[j]!<;>simp
 ·simp only[h,AVA,AWT,AU3]
end
theorem Ct(p:Int→Bool)(d:Array Int)(j i:Nat)(hj:j<d.size)(hi:i≤d.size):scanUp p d j i≤d.size:=by
 suffices h:∀ (k i:Nat),j+1-i=k→i≤d.size→scanUp p d j i≤d.size from h _ i rfl hi
 intro k
 induction k using Nat.strongRecOn with
 |_ k ih=>
 intro i hk hi
 rw[scanUp]
 split
 ·rename_i h
  have:i≤j:=by simp at h;exact h.1
  exact ih (j+1-(i+1)) (by omega) (i+1) rfl (by omega)
 ·exact hi
theorem AHd(a:Nat):∀ (k i j:Nat) (d:Array Int) (n:Nat),j+1-i=k→a<d.size→1≤i→i≤d.size→j<d.size→d.size<4294967296→k<n →
  AT Iw n (d.toList,(a:Int),(i:Int),(j:Int),())=some (.inl ((partLoop ltInt a i j d).2.toList,(a:Int),(((partLoop ltInt a i j d).1:Nat):Int),()))∧(partLoop ltInt a i j d).1≤j∧(partLoop ltInt a i j d).2.size=d.size:=by
 intro k
 induction k using Nat.strongRecOn with
 |_ k ih=>
 intro i j d n hk ha hi hi' hj hs hn
 have hm:4294967296<many:=by simp only[many];omega
 obtain⟨n,rfl⟩:∃ k,n=k+1:=⟨n-1,by omega⟩
 rw[partLoop_eq,AT,Iw]
 have u1:=scanUp_ge (fun x=>ltInt x d[a]!) d j i
 have u2:=Ct (fun x=>ltInt x d[a]!) d j i hj hi'
 rw[Ak,ZG _ (fun x=>ltInt x d[a]!) d a j hs hj (fun i h=>ADy d a i j hs ha hj h) _ i many rfl hi' (by omega)]
 generalize scanUp (fun x=>ltInt x d[a]!) d j i=i2 at *
 have v1:=scanDown_le (fun x => !ltInt x d[a]!) d i2 j
 simp only[Ak]
 rw[NZ _ (fun x => !ltInt x d[a]!) d a i2 (by omega) (fun j h=>ADw d a i2 j hs ha h (by omega)) j many hj (by omega)]
 generalize scanDown (fun x => !ltInt x d[a]!) d i2 j=j2 at *
 simp only[AR]
 by_cases h:j2<i2
 ·simp only[h,AU2,AWZ,AVM]
  exact⟨trivial,v1,trivial⟩
 ·have hi2:i2<d.size:=by omega
  have hj2:j2<d.size:=by omega
  simp only[h,AVA,AWZ,AU3,Aa hi2,Aa hj2,(DK hi2 hj2).1,(DK hi2 hj2).2]
  simp (disch:=omega) only[AK,Af]
  obtain⟨q1,q2,q3⟩:=ih (j2-1+1-(i2+1)) (by omega) (i2+1) (j2-1) (swp d i2 j2) n rfl (by rw[size_swp];omega) (by omega) (by rw[size_swp];omega) (by rw[size_swp];omega) (by rw[size_swp];omega) (by omega)
  exact⟨q1,by omega,by rw[q3,size_swp]⟩
theorem AMJ(d:Array Int)(a b p:Nat)(ha:a≤p)(hp:p<b)(hb:b≤d.size)(hs:d.size<4294967296):
  Ll (d.toList,(a:Int),(b:Int),(p:Int),())=some ((partition ltInt d a b p).2.2.toList,(((partition ltInt d a b p).1:Nat):Int),(partition ltInt d a b p).2.1,()):=by
 have hm:4294967296<many:=by simp only[many];omega
 have ha':a<d.size:=by omega
 have hp':p<d.size:=by omega
 rw[AEE,Q5,partition]
 simp only[Aa ha',Aa hp',(DK ha' hp').1,(DK ha' hp').2]
 have hs':=hs
 rw[← size_swp d a p]at ha' hs' hb
 generalize swp d a p=d at *
 simp (disch:=omega) only[AK,Af,Ak]
 have u1:=scanUp_ge (fun x=>ltInt x d[a]!) d (b-1) (a+1)
 have u2:=Ct (fun x=>ltInt x d[a]!) d (b-1) (a+1) (by omega) (by omega)
 rw[ZG _ (fun x=>ltInt x d[a]!) d a (b-1) hs' (by omega) (fun i h=>AD3 d a i (b-1) hs' ha' (by omega) h) _ (a+1) many rfl (by omega) (by omega)]
 generalize scanUp (fun x=>ltInt x d[a]!) d (b-1) (a+1)=i2 at *
 have v1:=scanDown_le (fun x => !ltInt x d[a]!) d i2 (b-1)
 simp only[]
 rw[NZ _ (fun x => !ltInt x d[a]!) d a i2 (by omega) (fun j h=>AD1 d a i2 j hs' ha' h (by omega)) (b-1) many (by omega) (by omega)]
 generalize scanDown (fun x => !ltInt x d[a]!) d i2 (b-1)=j2 at *
 simp only[AR]
 have hj2:j2<d.size:=by omega
 by_cases h:j2<i2
 ·simp only[h,AU2,AWZ,AVM,Aa ha',Aa hj2,(DK hj2 ha').1,(DK hj2 ha').2]
 ·have hi2:i2<d.size:=by omega
  simp only[h,AVA,AWZ,AU3,Aa hi2,Aa hj2,(DK hi2 hj2).1,(DK hi2 hj2).2]
  simp (disch:=omega) only[AK,Af]
  obtain⟨q1,q2,q3⟩:=AHd a (j2-1+1-(i2+1)) (i2+1) (j2-1) (swp d i2 j2) many rfl (by rw[size_swp];omega) (by omega) (by rw[size_swp];omega) (by rw[size_swp];omega) (by rw[size_swp];omega) (by omega)
  simp only[q1]
  rw[size_swp]at q3
  generalize partLoop ltInt a (i2+1) (j2-1) (swp d i2 j2)=r at *
  have h1:r.1<r.2.size:=by omega
  have h2:a<r.2.size:=by omega
  simp only[Aa h1,Aa h2,(DK h1 h2).1,(DK h1 h2).2]
theorem Zt(a:Nat):∀ (k i j:Nat) (d:Array Int) (n:Nat),j+1-i=k→a<d.size→1≤i→i≤d.size→j<d.size→d.size<4294967296→k<n →
  AT GG n (d.toList,(a:Int),(i:Int),(j:Int),())=some (.inl ((partEqLoop ltInt a i j d).2.toList,(((partEqLoop ltInt a i j d).1:Nat):Int),())):=by
 intro k
 induction k using Nat.strongRecOn with
 |_ k ih=>
 intro i j d n hk ha hi hi' hj hs hn
 have hm:4294967296<many:=by simp only[many];omega
 obtain⟨n,rfl⟩:∃ k,n=k+1:=⟨n-1,by omega⟩
 rw[partEqLoop_eq,AT,GG]
 have u1:=scanUp_ge (fun x => !ltInt d[a]! x) d j i
 have u2:=Ct (fun x => !ltInt d[a]! x) d j i hj hi'
 rw[Ak,ZG _ (fun x => !ltInt d[a]! x) d a j hs hj (fun i h=>WX d a i j hs ha hj h) _ i many rfl hi' (by omega)]
 generalize scanUp (fun x => !ltInt d[a]! x) d j i=i2 at *
 have v1:=scanDown_le (fun x=>ltInt d[a]! x) d i2 j
 simp only[Ak]
 rw[NZ _ (fun x=>ltInt d[a]! x) d a i2 (by omega) (fun j h=>WV d a i2 j hs ha h (by omega)) j many hj (by omega)]
 generalize scanDown (fun x=>ltInt d[a]! x) d i2 j=j2 at *
 simp only[AR]
 by_cases h:j2<i2
 ·simp only[h,AU2,AWZ,AVM]
 ·have hi2:i2<d.size:=by omega
  have hj2:j2<d.size:=by omega
  simp only[h,AVA,AWZ,AU3,Aa hi2,Aa hj2,(DK hi2 hj2).1,(DK hi2 hj2).2]
  simp (disch:=omega) only[AK,Af]
  exact ih (j2-1+1-(i2+1)) (by omega) (i2+1) (j2-1) (swp d i2 j2) n rfl (by rw[size_swp];omega) (by omega) (by rw[size_swp];omega) (by rw[size_swp];omega) (by rw[size_swp];omega) (by omega)
theorem AEK(d:Array Int)(a b p:Nat)(ha:a≤p)(hp:p<b)(hb:b≤d.size)(hs:d.size<4294967296):
  Ji (d.toList,(a:Int),(b:Int),(p:Int),())=some ((partitionEqual ltInt d a b p).2.toList,(((partitionEqual ltInt d a b p).1:Nat):Int),()):=by
 have hm:4294967296<many:=by simp only[many];omega
 have ha':a<d.size:=by omega
 have hp':p<d.size:=by omega
 rw[TE,Jh,partitionEqual]
 simp only[Aa ha',Aa hp',(DK ha' hp').1,(DK ha' hp').2]
 have hs':=hs
 rw[← size_swp d a p]at ha' hs' hb
 generalize swp d a p=d at *
 simp (disch:=omega) only[AK,Af,Ak]
 rw[Zt a _ (a+1) (b-1) d many rfl ha' (by omega) (by omega) (by omega) hs' (by omega)]
end Go.Pev.Pl.SI
end
section
namespace Go.Pev.Pl.SI
open Go.Sort
theorem Dy(d:Array Int)(b:Nat):∀ (k i:Nat),b-i=k→i≤b→i≤scanSorted ltInt d b i∧scanSorted ltInt d b i≤b:=by
 intro k
 induction k using Nat.strongRecOn with
 |_ k ih=>
 intro i hk hi
 rw[scanSorted]
 split
 ·rename_i h
  have:i<b:=by simp at h;exact h.1
  have:=ih (b-(i+1)) (by omega) (i+1) rfl (by omega)
  omega
 ·omega
theorem WK(d:Array Int)(a b s:Nat)(hb:b≤d.size)(hs:d.size<4294967296):∀ (k i n:Nat),b-i=k→1≤i→i≤b→k<n →
  AT E6 n (d.toList,(a:Int),(b:Int),(i:Int),(s:Int),())=some (.inl (d.toList,(a:Int),(b:Int),((scanSorted ltInt d b i:Nat):Int),(s:Int),())):=by
 intro k
 induction k using Nat.strongRecOn with
 |_ k ih=>
 intro i n hk h1 hi hn
 obtain⟨n,rfl⟩:∃ k,n=k+1:=⟨n-1,by omega⟩
 rw[scanSorted,AT,E6]
 simp only[AR]
 by_cases h:i<b
 ·have i0:i<d.size:=by omega
  have i1:i-1<d.size:=by omega
  simp (disch:=omega) only[h,AU2,Af,AK,Aa,Al,Bj,Bool.true_and]
  cases h2:ltInt d[i]! d[i-1]!
  ·simp only[AVg,AVM]
   exact ih (b-(i+1)) (by omega) (i+1) n rfl (by omega) (by omega) (by omega)
  ·simp only[AU7,AU5,AU3]
 ·simp only[h,AVA,AWp,AU5,AU3]
theorem WM(a b i s:Nat):∀ (j:Nat) (d:Array Int) (n:Nat),j<d.size→d.size<4294967296→j<n →
  AT Dq n (d.toList,(a:Int),(b:Int),(i:Int),(s:Int),(j:Int),())=some (.inl ((shiftDown ltInt j d).toList,(a:Int),(b:Int),(i:Int),(s:Int),())):=by
 intro j
 induction j with
 |zero=>
  intro d n hj hs hn
  obtain⟨n,rfl⟩:∃ k,n=k+1:=⟨n-1,by omega⟩
  rw[AT,Dq,Aw,AUp (by omega)]
  rfl
 |succ j ih=>
  intro d n hj hs hn
  obtain⟨n,rfl⟩:∃ k,n=k+1:=⟨n-1,by omega⟩
  have hj':j<d.size:=by omega
  rw[shiftDown,AT,Dq,Aw,AUr (by omega)]
  simp (disch:=omega) only[Af,Nat.add_sub_cancel,Aa,Al,Bj]
  cases h2:ltInt d[j+1]! d[j]!
  ·simp only[AVg,AVM]
  ·have e1:=DK hj hj'
   simp only[Al hj,Al hj']at e1
   simp only[AU7,AU5,AU3,e1]
   exact ih _ n (by rw[size_swp];omega) (by rw[size_swp];omega) (by omega)
theorem Pe(a b i s:Nat):∀ (k j:Nat) (d:Array Int) (n:Nat),b-j=k→1≤j→b≤d.size→d.size<4294967296→k<n →
  AT Dp n (d.toList,(a:Int),(b:Int),(i:Int),(s:Int),(j:Int),())=some (.inl ((shiftUp ltInt b j d).toList,(a:Int),(b:Int),(i:Int),(s:Int),())):=by
 intro k
 induction k using Nat.strongRecOn with
 |_ k ih=>
 intro j d n hk h1 hb hs hn
 obtain⟨n,rfl⟩:∃ k,n=k+1:=⟨n-1,by omega⟩
 rw[shiftUp,AT,Dp]
 simp only[AR]
 by_cases h:j<b
 ·have i0:j<d.size:=by omega
  have i1:j-1<d.size:=by omega
  simp (disch:=omega) only[h,AU2,AVM,Af,AK,Aa,Al,Bj]
  cases h2:ltInt d[j]! d[j-1]!
  ·simp only[AVg,AVM]
  ·have e1:=DK i0 i1
   simp only[Al i0,Al i1]at e1
   simp only[AU7,AU5,AU3,e1]
   exact ih (b-(j+1)) (by omega) (j+1) _ n rfl (by omega) (by rw[size_swp];omega) (by rw[size_swp];omega) (by omega)
 ·simp only[h,AVA,AU3]
theorem F9:∀ (j:Nat) (d:Array Int),(shiftDown ltInt j d).size=d.size:=by
 intro j
 induction j with
 |zero=>intro d;rfl
 |succ j ih=>
  intro d
  rw[shiftDown]
  split
  ·rfl
  ·rw[ih,size_swp]
theorem Br(b:Nat):∀ (k j:Nat) (d:Array Int),b-j=k→(shiftUp ltInt b j d).size=d.size:=by
 intro k
 induction k using Nat.strongRecOn with
 |_ k ih=>
 intro j d hk
 rw[shiftUp]
 split
 ·split
  ·rfl
  ·rw[ih (b-(j+1)) (by omega) (j+1) _ rfl,size_swp]
 ·rfl
theorem WL(a b:Nat)(hab:a<b):∀ (k i s:Nat) (d:Array Int) (n:Nat),s+k=5→a+1≤i→i≤b→b≤d.size→d.size<4294967296→k<n →
  AT B1 n (d.toList,(a:Int),(b:Int),(i:Int),(s:Int),())=some (.inl ((partialIns ltInt a b k i d).1.toList,(partialIns ltInt a b k i d).2,())) ∨
  ((partialIns ltInt a b k i d).2=false∧AT B1 n (d.toList,(a:Int),(b:Int),(i:Int),(s:Int),())=some (.inr (.inl ((partialIns ltInt a b k i d).1.toList,())))):=by
 intro k
 induction k with
 |zero=>
  intro i s d n hk h1 hi hb hs hn
  obtain⟨n,rfl⟩:∃ k,n=k+1:=⟨n-1,by omega⟩
  rw[AT,B1,An,AUp (by omega)]
  exact .inr ⟨rfl,rfl⟩
 |succ k ih=>
  intro i s d n hk h1 hi hb hs hn
  have hm:4294967296<many:=by simp only[many];omega
  have es:IntKind.wrap .i64 ((s:Int)+1)=((s+1:Nat):Int):=AK (by omega)
  obtain⟨n,rfl⟩:∃ k,n=k+1:=⟨n-1,by omega⟩
  rw[AT,B1,An,AUr (by omega),partialIns]
  simp only[Ak,WK d a b s hb hs (b-i) i many rfl (by omega) hi (by omega)]
  have hsc:=Dy d b _ i rfl hi
  generalize scanSorted ltInt d b i=i2 at *
  simp only[AAt]
  by_cases h2:i2=b
  ·simp only[h2,AU2,AVM,true_or]
  ·simp (disch:=omega) only[h2,AVA,AU3,BQ,An,Aw]
   by_cases h3:b-a<50
   ·rw[AU4 h3,AUr (by omega)]
    exact .inl rfl
   ·have i0:i2<d.size:=by omega
    have i1:i2-1<d.size:=by omega
    rw[AUy h3,AUp (by omega)]
    simp (disch:=omega) only[Af,AK,Aa i0,Aa i1,(DK i0 i1).1,(DK i0 i1).2]
    have hsz:=size_swp d i2 (i2-1)
    generalize swp d i2 (i2-1)=d2 at *
    by_cases h4:i2-a≥2
    ·rw[AU4 h4,AUr (show(2:Int)≤((i2-a:Nat):Int) by omega)]
     simp only[WM a b i2 s (i2-1) d2 many (by omega) (by omega) (by omega)]
     have hsz2:=F9 (i2-1) d2
     generalize shiftDown ltInt (i2-1) d2=d3 at *
     simp (disch:=omega) only[BQ,AK]
     by_cases h5:b-i2≥2
     ·rw[AU4 h5,AUr (show(2:Int)≤((b-i2:Nat):Int) by omega)]
      simp only[Pe a b i2 s _ (i2+1) d3 many rfl (by omega) (by omega) (by omega) (by omega)]
      simp only[es]
      exact ih i2 (s+1) (shiftUp ltInt b (i2+1) d3) n (by omega) (by omega) (by omega) (by rw[Br b (b-(i2+1)) (i2+1) _ rfl];omega) (by rw[Br b (b-(i2+1)) (i2+1) _ rfl];omega) (by omega)
     ·rw[AUy h5,AUp (show ¬ (2:Int)≤((b-i2:Nat):Int) by omega)]
      simp only[es]
      exact ih i2 (s+1) d3 n (by omega) (by omega) (by omega) (by omega) (by omega) (by omega)
    ·rw[AUy h4,AUp (show ¬ (2:Int)≤((i2-a:Nat):Int) by omega)]
     by_cases h5:b-i2≥2
     ·rw[AU4 h5,AUr (show(2:Int)≤((b-i2:Nat):Int) by omega)]
      simp only[Pe a b i2 s _ (i2+1) d2 many rfl (by omega) (by omega) (by omega) (by omega)]
      simp only[es]
      exact ih i2 (s+1) (shiftUp ltInt b (i2+1) d2) n (by omega) (by omega) (by omega) (by rw[Br b (b-(i2+1)) (i2+1) _ rfl];omega) (by rw[Br b (b-(i2+1)) (i2+1) _ rfl];omega) (by omega)
     ·rw[AUy h5,AUp (show ¬ (2:Int)≤((b-i2:Nat):Int) by omega)]
      simp only[es]
      exact ih i2 (s+1) d2 n (by omega) (by omega) (by omega) (by omega) (by omega) (by omega)
theorem Zk(d:Array Int)(a b:Nat)(hab:a<b)(hb:b≤d.size)(hs:d.size<4294967296):
  HR (d.toList,(a:Int),(b:Int),())=some ((partialInsertionSort ltInt d a b).1.toList,(partialInsertionSort ltInt d a b).2,()):=by
 have hm:4294967296<many:=by simp only[many];omega
 rw[Pp,Hq,partialInsertionSort]
 simp (disch:=omega) only[AK,Ak]
 have h:=WL a b hab 5 (a+1) 0 d many rfl (AU1 _) (by omega) hb hs (by omega)
 rcases h with h|⟨h0,h⟩
 ·have h':AT B1 many (d.toList,(a:Int),(b:Int),((a+1:Nat):Int),(0:Int),())=_:=h
  rw[h']
 ·have h':AT B1 many (d.toList,(a:Int),(b:Int),((a+1:Nat):Int),(0:Int),())=_:=h
  rw[h',h0]
theorem Iz(d:Array Int)(a b:Nat)(s:Int)(ha:a<d.size)(hb:b<d.size):
  ∃ s' p q,Hv (d.toList,(a:Int),(b:Int),s,())=some (d.toList,s',((p:Nat):Int),((q:Nat):Int),())∧(p=a∧q=b∨p=b∧q=a):=by
 rw[TG,Jk]
 simp only[Aa ha,Aa hb,Al ha,Al hb,Bj]
 cases ltInt d[b]! d[a]!
 ·exact⟨_,a,b,rfl,.inl ⟨rfl,rfl⟩⟩
 ·exact⟨_,b,a,rfl,.inr ⟨rfl,rfl⟩⟩
theorem I2(d:Array Int)(a b c:Nat)(s:Int)(ha:a<d.size)(hb:b<d.size)(hc:c<d.size):
  ∃ s' p,H3 (d.toList,(a:Int),(b:Int),(c:Int),s,())=some (d.toList,s',((p:Nat):Int),())∧(p=a∨p=b∨p=c):=by
 rw[TN,Jp]
 obtain⟨s1,p1,q1,e1,h1⟩:=Iz d a b s ha hb
 simp only[e1]
 obtain⟨s2,p2,q2,e2,h2⟩:=Iz d q1 c s1 (by omega) hc
 simp only[e2]
 obtain⟨s3,p3,q3,e3,h3⟩:=Iz d p1 p2 s2 (by omega) (by omega)
 simp only[e3]
 exact⟨_,q3,rfl,by omega⟩
theorem I4(d:Array Int)(a:Nat)(s:Int)(h1:1≤a)(ha:a+1<d.size)(hs:d.size<4294967296):
  ∃ s' p,H4 (d.toList,(a:Int),s,())=some (d.toList,s',((p:Nat):Int),())∧a≤p+1∧p≤a+1:=by
 rw[TO,Js]
 simp (disch:=omega) only[Af,AK]
 obtain⟨s1,p1,e1,h1⟩:=I2 d (a-1) a (a+1) s (by omega) (by omega) ha
 simp only[e1]
 exact⟨_,p1,rfl,by omega⟩
theorem AHP(d:Array Int)(a b:Nat)(hab:a+8≤b)(hb:b≤d.size)(hs:d.size<4294967296):
  ∃ p h,Nf (d.toList,(a:Int),(b:Int),())=some (d.toList,((p:Nat):Int),h,())∧a≤p∧p<b:=by
 rw[XW,Le]
 simp (disch:=omega) only[BQ,PQ,W3,Dk,W2,wrap_add,Aw]
 rw[AUr (show(8:Int)≤((b-a:Nat):Int) by omega)]
 simp only[]
 by_cases h:50≤b-a
 ·rw[AUr (show(50:Int)≤((b-a:Nat):Int) by omega)]
  simp only[]
  obtain⟨s1,p1,e1,h1⟩:=I4 d (a+(b-a)/4*1) 0 (by omega) (by omega) hs
  simp only[e1]
  obtain⟨s2,p2,e2,h2⟩:=I4 d (a+(b-a)/4*2) s1 (by omega) (by omega) hs
  simp only[e2]
  obtain⟨s3,p3,e3,h3⟩:=I4 d (a+(b-a)/4*3) s2 (by omega) (by omega) hs
  simp only[e3]
  obtain⟨s4,p4,e4,h4⟩:=I2 d p1 p2 p3 s3 (by omega) (by omega) (by omega)
  simp only[e4]
  cases ieq s4 0
  ·cases ieq s4 12
   ·exact⟨p4,_,rfl,by omega,by omega⟩
   ·exact⟨p4,_,rfl,by omega,by omega⟩
  ·exact⟨p4,_,rfl,by omega,by omega⟩
 ·rw[AUp (show ¬ (50:Int)≤((b-a:Nat):Int) by omega)]
  simp only[]
  obtain⟨s4,p4,e4,h4⟩:=I2 d (a+(b-a)/4*1) (a+(b-a)/4*2) (a+(b-a)/4*3) 0 (by omega) (by omega) (by omega)
  simp only[e4]
  cases ieq s4 0
  ·cases ieq s4 12
   ·exact⟨p4,_,rfl,by omega,by omega⟩
   ·exact⟨p4,_,rfl,by omega,by omega⟩
  ·exact⟨p4,_,rfl,by omega,by omega⟩
end Go.Pev.Pl.SI
end
section
namespace Go.Pev.Pl.SI
open Go.Sort
theorem AFy(a b:Nat)(m:Nat)(h8:a+8≤b)(hm1:1≤m)(hm:m≤2*(b-a)):∀ (k t:Nat) (d:Array Int) (r:Int) (n:Nat),t+k=3→b≤d.size→d.size<4294967296→k<n →
  ∃ d':Array Int,AT Em n (d.toList,(a:Int),((b-a:Nat):Int),r,(m:Int),((a+(b-a)/4*2-1+t:Nat):Int),())=some (.inl (d'.toList,()))∧PermIn a b d d':=by
 intro k
 induction k with
 |zero=>
  intro t d r n hk hb hs hn
  obtain⟨n,rfl⟩:∃ k,n=k+1:=⟨n-1,by omega⟩
  rw[AT,Em]
  simp (disch:=omega) only[PQ,Dk,wrap_add,AK,BR]
  rw[AUp (by omega)]
  exact⟨d,rfl,permIn_refl d a b⟩
 |succ k ih=>
  intro t d r n hk hb hs hn
  obtain⟨n,rfl⟩:∃ k,n=k+1:=⟨n-1,by omega⟩
  rw[AT,Em]
  simp (disch:=omega) only[PQ,Dk,wrap_add,AK,BR]
  rw[AUr (show a+(b-a)/4*2-1+t≤a+(b-a)/4*2+1 by omega)]
  obtain⟨r',y,e⟩:=PL r
  obtain⟨o,e2,ho⟩:=AEN y m hm1 (by omega)
  simp only[e,e2]
  rw[Ah (n:=(o:Int)) (by omega)]
  simp only[BR]
  have i0:a+(b-a)/4*2-1+t<d.size:=by omega
  have fin:∀ q:Nat,a≤q→q<b→∃ d':Array Int,AT Em n ((swp d (a+(b-a)/4*2-1+t) q).toList,(a:Int),((b-a:Nat):Int),r',(m:Int),((a+(b-a)/4*2-1+t+1:Nat):Int),())=some (.inl (d'.toList,()))∧PermIn a b d d':=by
   intro q hq1 hq2
   obtain⟨d',e',hp⟩:=ih (t+1) (swp d (a+(b-a)/4*2-1+t) q) r' n (by omega) (by rw[size_swp];omega) (by rw[size_swp];omega) (by omega)
   exact⟨d',e',permIn_trans _ _ _ a b (swp_permIn d a b _ q (by omega) (by omega) hq1 hq2 hb) hp⟩
  by_cases h:b-a≤o
  ·have i1:a+(o-(b-a))<d.size:=by omega
   simp (disch:=omega) only[h,AU2,BQ,wrap_add,AK,Aa i0,Aa i1,(DK i0 i1).1,(DK i0 i1).2]
   exact fin _ (by omega) (by omega)
  ·have i1:a+o<d.size:=by omega
   simp (disch:=omega) only[h,AVA,BQ,wrap_add,AK,Aa i0,Aa i1,(DK i0 i1).1,(DK i0 i1).2]
   exact fin _ (by omega) (by omega)
theorem AJl(d:Array Int)(a b:Nat)(hab:a≤b)(hb:b≤d.size)(hs:d.size<4294967296):
  ∃ d':Array Int,Oq (d.toList,(a:Int),(b:Int),())=some (d'.toList,())∧PermIn a b d d':=by
 have hm:4294967296<many:=by simp only[many];omega
 rw[YA,Mn]
 simp (disch:=omega) only[BQ,Aw]
 by_cases h:8≤b-a
 ·rw[AUr (show(8:Int)≤((b-a:Nat):Int) by omega)]
  obtain⟨m,e,h1,h2⟩:=Pr (b-a) (by omega) (by omega)
  simp only[e]
  rw[u64_in (n:=((b-a:Nat):Int)) (by omega)]
  simp (disch:=omega) only[PQ,Dk,wrap_add,Af,Ak]
  obtain⟨d',e2,hp⟩:=AFy a b m (by omega) h1 h2 3 0 d ((b-a:Nat):Int) many rfl hb hs (by omega)
  rw[AWD]at e2
  simp only[e2]
  exact⟨d',rfl,hp⟩
 ·rw[AUp (show ¬ (8:Int)≤((b-a:Nat):Int) by omega)]
  exact⟨d,rfl,permIn_refl d a b⟩
end Go.Pev.Pl.SI
end
section
namespace Go.Pev.Pl.SI
open Go.Sort
abbrev ALK:=List Int×Int×Int×Int×Bool×Bool×Unit
abbrev Fj:=ALK⊕(List Int×Unit)⊕Unit
noncomputable section
def Jf(self:(List Int×Int×Int×Int×Unit)→Option ((List Int×Unit)))(y7:List Int)(a1 a2 p l:Int)(a4 a5:Bool):Option Fj:=
 match(ilt (0:Int) a1)with
 |true=>match idx y7 (IntKind.wrap .i64 (a1-(1:Int)))with
  |none=>none
  |some x9=>match idx y7 p with
   |none=>none
   |some x10=>match DQ ((AN y7 (AF (IntKind.wrap .i64 (a1-(1:Int)))) (0:Int)),(AN y7 (AF p) (0:Int)),())with
    |none=>none
    |some (y11,_)=>match(!y11)with
     |true=>match Ji (y7,a1,a2,p,())with
      |none=>none
      |some (y12,y13,_)=>some (.inl (y12,y13,a2,l,a4,a5,()))
     |false=>match Ll (y7,a1,a2,p,())with
      |none=>none
      |some (y14,y15,y16,_)=>match quo? .i64 (IntKind.wrap .i64 (a2-a1)) (8:Int)with
       |none=>none
       |some x17=>match(ilt (IntKind.wrap .i64 (y15-a1)) (IntKind.wrap .i64 (a2-y15)))with
        |true=>match self (y14,a1,y15,l,())with
         |none=>none
         |some (y18,_)=>some (.inl (y18,(IntKind.wrap .i64 (y15+(1:Int))),a2,l,(ile x17 (IntKind.wrap .i64 (y15-a1))),y16,()))
        |false=>match self (y14,(IntKind.wrap .i64 (y15+(1:Int))),a2,l,())with
         |none=>none
         |some (y19,_)=>some (.inl (y19,a1,y15,l,(ile x17 (IntKind.wrap .i64 (a2-y15))),y16,()))
 |false=>match Ll (y7,a1,a2,p,())with
  |none=>none
  |some (y20,y21,y22,_)=>match quo? .i64 (IntKind.wrap .i64 (a2-a1)) (8:Int)with
   |none=>none
   |some x23=>match(ilt (IntKind.wrap .i64 (y21-a1)) (IntKind.wrap .i64 (a2-y21)))with
    |true=>match self (y20,a1,y21,l,())with
     |none=>none
     |some (y24,_)=>some (.inl (y24,(IntKind.wrap .i64 (y21+(1:Int))),a2,l,(ile x23 (IntKind.wrap .i64 (y21-a1))),y22,()))
    |false=>match self (y20,(IntKind.wrap .i64 (y21+(1:Int))),a2,l,())with
     |none=>none
     |some (y25,_)=>some (.inl (y25,a1,y21,l,(ile x23 (IntKind.wrap .i64 (a2-y21))),y22,()))
def Zf(self:(List Int×Int×Int×Int×Unit)→Option ((List Int×Unit)))(y6:List Int)(a1 a2 p h l:Int)(a4 a5:Bool):Option Fj:=
 match a4 with
 |true=>match a5 with
  |true=>match(ieq h (1:Int))with
   |true=>match HR (y6,a1,a2,())with
    |none=>none
    |some (y7,y8,_)=>match y8 with
     |true=>some (.inr (.inl (y7,())))
     |false=>Jf self y7 a1 a2 p l a4 a5
   |false=>Jf self y6 a1 a2 p l a4 a5
  |false=>Jf self y6 a1 a2 p l a4 a5
 |false=>Jf self y6 a1 a2 p l a4 a5
def ZX(self:(List Int×Int×Int×Int×Unit)→Option ((List Int×Unit)))(y2:List Int)(a1 a2 l:Int)(a4 a5:Bool):Option Fj:=
 match Nf (y2,a1,a2,())with
 |none=>none
 |some (y3,y4,y5,_)=>match(ieq y5 (2:Int))with
  |true=>match AL4 (y3,a1,a2,())with
   |none=>none
   |some (y6,_)=>Zf self y6 a1 a2 (IntKind.wrap .i64 ((IntKind.wrap .i64 (a2-(1:Int)))-(IntKind.wrap .i64 (y4-a1)))) 1 l a4 a5
  |false=>Zf self y3 a1 a2 y4 y5 l a4 a5
def ADI(self:(List Int×Int×Int×Int×Unit)→Option ((List Int×Unit))):ALK→Option Fj:=fun(a0,a1,a2,a3,a4,a5,_)=>
 match(ile (IntKind.wrap .i64 (a2-a1)) (12:Int))with
 |true=>match ANI (a0,a1,a2,())with
  |none=>none
  |some (y0,_)=>some (.inr (.inl (y0,())))
 |false=>match(ieq a3 (0:Int))with
  |true=>match Xv (a0,a1,a2,())with
   |none=>none
   |some (y1,_)=>some (.inr (.inl (y1,())))
  |false=>match(!a4)with
   |true=>match Oq (a0,a1,a2,())with
    |none=>none
    |some (y2,_)=>ZX self y2 a1 a2 (IntKind.wrap .i64 (a3-(1:Int))) a4 a5
   |false=>ZX self a0 a1 a2 a3 a4 a5
theorem WH:Jg=ADI:=rfl
end
def Gd(d:Array Int)(a b:Nat):Fj→Prop
 |.inl (xs,x,y,l,_,_,_)=>∃ (e:Array Int) (i j:Nat),xs=e.toList∧x=(i:Int)∧y=(j:Int)∧0≤l∧l≤100∧i≤j∧j≤e.size∧e.size=d.size∧j-i<b-a∧Below ltInt i j e ∧
   ∀ R,PermIn i j e R→SortedIn ltInt i j R→PermIn a b d R∧SortedIn ltInt a b R
 |.inr (.inl (xs,_))=>∃ R:Array Int,xs=R.toList∧PermIn a b d R∧SortedIn ltInt a b R
 |.inr (.inr _)=>False
def BV(self:(List Int×Int×Int×Int×Unit)→Option ((List Int×Unit)))(m:Nat):Prop:=
 ∀ (d:Array Int) (a b:Nat) (l:Int),a≤b→b≤d.size→d.size<4294967296→0≤l→l≤100→Below ltInt a b d→2*(b-a)<m →
  ∃ R:Array Int,self (d.toList,(a:Int),(b:Int),l,())=some (R.toList,())∧PermIn a b d R∧SortedIn ltInt a b R
section
variable {self:(List Int×Int×Int×Int×Unit)→Option ((List Int×Unit))} {d:Array Int} {a b:Nat} {l:Int}
theorem Ir(hself:BV self (b-a))(hb:b≤d.size)(hs:d.size<4294967296)(hl:0≤l∧l≤100)
  {d3:Array Int} {p:Nat} (P3:PermIn a b d d3) (B3:Below ltInt a b d3) (hp1:a≤p) (hp2:p<b) :
  ∃ o,(match Ll (d3.toList,(a:Int),(b:Int),(p:Int),())with
  |none=>none
  |some (y20,y21,y22,_)=>match quo? .i64 (IntKind.wrap .i64 ((b:Int)-(a:Int))) (8:Int)with
   |none=>none
   |some x23=>match(ilt (IntKind.wrap .i64 (y21-(a:Int))) (IntKind.wrap .i64 ((b:Int)-y21)))with
    |true=>match self (y20,(a:Int),y21,l,())with
     |none=>none
     |some (y24,_)=>some ((.inl (y24,(IntKind.wrap .i64 (y21+(1:Int))),(b:Int),l,(ile x23 (IntKind.wrap .i64 (y21-(a:Int)))),y22,())):Fj)
    |false=>match self (y20,(IntKind.wrap .i64 (y21+(1:Int))),(b:Int),l,())with
     |none=>none
     |some (y25,_)=>some (.inl (y25,(a:Int),y21,l,(ile x23 (IntKind.wrap .i64 ((b:Int)-y21))),y22,())))=some o∧Gd d a b o:=by
 have b3:b≤d3.size:=by rw[P3.1];exact hb
 have s3:d3.size<4294967296:=by rw[P3.1];exact hs
 rw[AMJ d3 a b p hp1 hp2 b3 s3]
 rcases hx:partition ltInt d3 a b p with⟨mid,ap,d4⟩
 obtain⟨g1,g2,hs4,hBa,hBr,hleft,hright⟩:=round_part swo_ltInt (partition_holds _) hp1 hp2 b3 B3 hx
 simp (disch:=omega) only[BQ,AK,ATZ,AR]
 have b4:b≤d4.size:=by omega
 by_cases h:mid-a<b-mid
 ·obtain⟨L,e,l1,l2⟩:=hself d4 a mid l g1 (by omega) (by omega) hl.1 hl.2 hBa (by omega)
  simp only[h,AU2,e]
  obtain⟨hBL,hfin⟩:=hleft _ l1 l2
  refine⟨_,rfl,L,mid+1,b,rfl,rfl,rfl,hl.1,hl.2,by omega,by rw[l1.1];exact b4,by rw[l1.1,hs4,P3.1],by omega,hBL,fun R r1 r2 => ?_⟩
  obtain⟨q1,q2⟩:=hfin R r1 r2
  exact⟨permIn_trans _ _ _ a b P3 q1,q2⟩
 ·obtain⟨L,e,l1,l2⟩:=hself d4 (mid+1) b l (by omega) (by omega) (by omega) hl.1 hl.2 hBr (by omega)
  simp only[h,AVA,e]
  obtain⟨hBL,hfin⟩:=hright _ l1 l2
  refine⟨_,rfl,L,a,mid,rfl,rfl,rfl,hl.1,hl.2,by omega,by rw[l1.1];omega,by rw[l1.1,hs4,P3.1],by omega,hBL,fun R r1 r2 => ?_⟩
  obtain⟨q1,q2⟩:=hfin R r1 r2
  exact⟨permIn_trans _ _ _ a b P3 q1,q2⟩
theorem D0(hself:BV self (b-a))(hb:b≤d.size)(hs:d.size<4294967296)(hl:0≤l∧l≤100)
  {d3:Array Int} {p:Nat} (wb wp:Bool) (P3:PermIn a b d d3) (B3:Below ltInt a b d3) (hp1:a≤p) (hp2:p<b) :
  ∃ o,Jf self d3.toList (a:Int) (b:Int) (p:Int) l wb wp=some o∧Gd d a b o:=by
 have b3:b≤d3.size:=by rw[P3.1];exact hb
 have s3:d3.size<4294967296:=by rw[P3.1];exact hs
 rw[Jf,An]
 by_cases h0:0<a
 ·rw[AUr (by omega)]
  have i0:a-1<d3.size:=by omega
  have i1:p<d3.size:=by omega
  simp (disch:=omega) only[Af,Aa,Al,Bj]
  cases hc:ltInt d3[a-1]! d3[p]!
  ·simp only[AVg]
   rw[AEK d3 a b p hp1 hp2 b3 s3]
   rcases hx:partitionEqual ltInt d3 a b p with⟨mid,d4⟩
   obtain⟨hm1,hm2,hs4,hB4,hfin⟩:=round_eq swo_ltInt (partitionEqual_holds _) h0 hp1 hp2 b3 B3 hc hx
   refine⟨_,rfl,d4,mid,b,rfl,rfl,rfl,hl.1,hl.2,by omega,by omega,by rw[hs4,P3.1],by omega,hB4,fun R r1 r2 => ?_⟩
   obtain⟨q1,q2⟩:=hfin R r1 r2
   exact⟨permIn_trans _ _ _ a b P3 q1,q2⟩
  ·simp only[AU7]
   exact Ir hself hb hs hl P3 B3 hp1 hp2
 ·rw[AUp (by omega)]
  exact Ir hself hb hs hl P3 B3 hp1 hp2
theorem Lh(hself:BV self (b-a))(hab:a<b)(hb:b≤d.size)(hs:d.size<4294967296)(hl:0≤l∧l≤100)
  {d3:Array Int} {p:Nat} (h:Int) (wb wp:Bool) (P3:PermIn a b d d3) (B3:Below ltInt a b d3) (hp1:a≤p) (hp2:p<b) :
  ∃ o,Zf self d3.toList (a:Int) (b:Int) (p:Int) h l wb wp=some o∧Gd d a b o:=by
 have b3:b≤d3.size:=by rw[P3.1];exact hb
 have s3:d3.size<4294967296:=by rw[P3.1];exact hs
 unfold Zf
 cases wb
 ·exact D0 hself hb hs hl _ _ P3 B3 hp1 hp2
 ·cases wp
  ·exact D0 hself hb hs hl _ _ P3 B3 hp1 hp2
  ·simp only[]
   cases ieq h 1
   ·exact D0 hself hb hs hl _ _ P3 B3 hp1 hp2
   ·simp only[]
    rw[Zk d3 a b hab b3 s3]
    obtain⟨q1,q2⟩:=partialInsertionSort_holds (lt:=ltInt) swo_ltInt d3 a b hab b3 B3
    rcases hx:partialInsertionSort ltInt d3 a b with⟨d4,fin⟩
    rw[hx]at q1 q2
    have P4:PermIn a b d d4:=permIn_trans _ _ _ a b P3 q1
    cases fin
    ·exact D0 hself hb hs hl _ _ P4 (B3.perm b3 q1) hp1 hp2
    ·exact⟨_,rfl,d4,rfl,P4,q2 rfl⟩
theorem Lg(hself:BV self (b-a))(hab:a+8≤b)(hb:b≤d.size)(hs:d.size<4294967296)(hl:0≤l∧l≤100)
  {d3:Array Int} (wb wp:Bool) (P3:PermIn a b d d3) (B3:Below ltInt a b d3) :
  ∃ o,ZX self d3.toList (a:Int) (b:Int) l wb wp=some o∧Gd d a b o:=by
 have b3:b≤d3.size:=by rw[P3.1];exact hb
 have s3:d3.size<4294967296:=by rw[P3.1];exact hs
 rw[ZX]
 obtain⟨p,h,e,hp1,hp2⟩:=AHP d3 a b hab b3 s3
 simp only[e]
 cases ieq h 2
 ·exact Lh hself (by omega) hb hs hl h _ _ P3 B3 hp1 hp2
 ·simp only[APF d3 a b (by omega) b3 s3]
  have q1:=reverseRange_holds (α:=Int) d3 a b (by omega) b3
  simp (disch:=omega) only[Af,BQ]
  exact Lh hself (by omega) hb hs hl 1 _ _ (permIn_trans _ _ _ a b P3 q1) (B3.perm b3 q1) (by omega) (by omega)
theorem Ng(hself:BV self (b-a))(hab:a≤b)(hb:b≤d.size)(hs:d.size<4294967296)(hl:0≤l∧l≤100)(wb wp:Bool)(B:Below ltInt a b d):
  ∃ o,Jg self (d.toList,(a:Int),(b:Int),l,wb,wp,())=some o∧Gd d a b o:=by
 rw[WH,ADI]
 simp (disch:=omega) only[BQ,Aw,EX]
 by_cases h12:b-a≤12
 ·rw[AUr (show((b-a:Nat):Int)≤12 by omega)]
  simp only[AQb d a b hab hb hs]
  obtain⟨q1,q2⟩:=insertionSort_holds (lt:=ltInt) swo_ltInt d a b hab hb
  exact⟨_,rfl,_,rfl,q1,q2⟩
 ·rw[AUp (show ¬ ((b-a:Nat):Int)≤12 by omega)]
  simp only[]
  by_cases h0:l=0
  ·subst h0
   simp only[BEq.rfl,ANQ d a b (by omega) hb hs]
   obtain⟨q1,q2⟩:=heapSort_holds (lt:=ltInt) swo_ltInt d a b hab hb
   exact⟨_,rfl,_,rfl,q1,q2⟩
  ·rw[show(l==0)=false by simpa using h0]
   simp only[]
   cases wb
   ·obtain⟨d',e,q1⟩:=AJl d a b hab hb hs
    simp only[AVg,e]
    rw[Ah (by omega)]
    exact Lg hself (by omega) hb hs (by omega) _ _ q1 (B.perm hb q1)
   ·simp only[AU7]
    exact Lg hself (by omega) hb hs hl _ _ (permIn_refl d a b) B
end
theorem Is{self:(List Int×Int×Int×Int×Unit)→Option ((List Int×Unit))}{m:Nat}(hself:BV self m):∀ (k:Nat) (d:Array Int) (a b:Nat) (l:Int) (wb wp:Bool) (n:Nat),b-a=k→k≤m→a≤b→b≤d.size→d.size<4294967296→0≤l→l≤100→Below ltInt a b d→k<n →
  ∃ R:Array Int,AT (Jg self) n (d.toList,(a:Int),(b:Int),l,wb,wp,())=some (.inl (R.toList,()))∧PermIn a b d R∧SortedIn ltInt a b R:=by
 intro k
 induction k using Nat.strongRecOn with
 |_ k ih=>
 intro d a b l wb wp n hk hm hab hb hs hl1 hl2 B hn
 obtain⟨n,rfl⟩:∃ k,n=k+1:=⟨n-1,by omega⟩
 have hself':BV self (b-a):=fun d a' b' l h1 h2 h3 h4 h5 h6 h7=>hself d a' b' l h1 h2 h3 h4 h5 h6 (by omega)
 obtain⟨o,e,ho⟩:=Ng hself' hab hb hs ⟨hl1,hl2⟩ wb wp B
 rw[AT,e]
 match o,ho with
 |.inl (xs,x,y,l',wb',wp',_),ho=>
  obtain⟨e',i,j,rfl,rfl,rfl,g1,g2,g3,g4,g5,g6,g7,hfin⟩:=ho
  obtain⟨R,e2,r1,r2⟩:=ih (j-i) (by omega) e' i j l' wb' wp' n rfl (by omega) g3 g4 (by omega) g1 g2 g7 (by omega)
  exact⟨R,e2,hfin R r1 r2⟩
 |.inr (.inl (xs,_)),ho=>
  obtain⟨R,rfl,r1,r2⟩:=ho
  exact⟨R,rfl,r1,r2⟩
theorem Nh:∀ k:Nat,BV (GC (k+1)) (2 ^ k):=by
 intro k
 have hmany:4294967296<many:=by simp only[many];omega
 induction k with
 |zero=>
  intro d a b l h1 h2 h3 h4 h5 h6 h7
  have:BV (GC 0) 0:=fun _ _ _ _ _ _ _ _ _ _ h=>by omega
  obtain⟨R,e,r1,r2⟩:=Is this (b-a) d a b l true true many rfl (by omega) h1 h2 h3 h4 h5 h6 (by omega)
  refine⟨R,?_,r1,r2⟩
  rw[GC,Za]
  simp only[Ak,e]
 |succ k ih=>
  intro d a b l h1 h2 h3 h4 h5 h6 h7
  have hp:2 ^ (k+1)=2*2 ^ k:=by rw[Nat.pow_succ];omega
  obtain⟨R,e,r1,r2⟩:=Is ih (b-a) d a b l true true many rfl (by omega) h1 h2 h3 h4 h5 h6 (by omega)
  refine⟨R,?_,r1,r2⟩
  rw[GC,Za]
  simp only[Ak,e]
def sorted(xs:List Int):List Int:=xs.mergeSort (fun x y=>decide (x≤y))
theorem ALm{d d':Array Int}(h1:PermIn 0 d.size d d')(h2:SortedIn ltInt 0 d.size d'):d'.toList=sorted d.toList:=by
 have h:=sorted_unique_holds (lt:=ltInt) swo_ltInt (fun x y h1 h2=>by simp[ltInt]at h1 h2;omega) d d' h1 h2
 rw[h,sorted]
 congr
 funext x y
 by_cases h:x≤y
 ·simp[ltInt,h,Int.not_lt.2 h]
 ·simp[ltInt,h,Int.not_le.1 h]
theorem ALo(xs:List Int)(h:xs.length<4294967296):ACh (xs,())=some (sorted xs,()):=by
 obtain⟨d,rfl⟩:∃ d:Array Int,xs=d.toList:=⟨xs.toArray,rfl⟩
 rw[AVB]at h
 rw[ACg,Qy]
 rw[ABK,u64_in (by omega)]
 obtain⟨v,e,hv,_⟩:=JS d.size h
 simp only[e]
 obtain⟨R,e2,r1,r2⟩:=Nh 99 d 0 d.size (v:Int) (by omega) (by omega) h (by omega) (by omega) (.inl rfl) (by
  have:2 ^ 99=633825300114114700748351602688:=by decide
  omega)
 have e3:AMH (d.toList,(0:Int),(d.size:Int),(v:Int),())=some (R.toList,()):=by rw[AKU];exact e2
 simp only[e3,ALm r1 r2]
end Go.Pev.Pl.SI
end
section
namespace Go.Pev.Pl
open Tok
def oth(v k:Int)(b:Bool)(t:Tie):Option Int:=
 if t.2.2.1=k∧t.2.2.2.1=b then(if v=t.1 then some t.2.1 else if v=t.2.1 then some t.1 else none)else none
def AHt(v k:Int)(b:Bool)(t:Tie)(a:List Int):List Int:=match oth v k b t with
 |some u=>a++[u]
 |none=>a
theorem AMP(v k:Int)(b:Bool):∀ (ts:List Tie) (a:List Int),ts.foldl (fun a t=>AHt v k b t a) a=a++ts.filterMap (oth v k b):=by
 intro ts
 induction ts with
 |nil=>intro a;simp
 |cons t ts ih=>
  intro a
  rw[AVo,ih,List.filterMap_cons]
  unfold AHt
  cases oth v k b t with
  |none=>rfl
  |some u=>simp
theorem AP1(v k:Int)(b:Bool)(t:Tie)(a:List Int):(AHt v k b t a).length≤a.length+1:=by
 unfold AHt
 split<;>simp
theorem AIX(v k:Int)(b:Bool)(ts:List Tie)(ht:ts.length≤400):
  AZ FD many (v,k,b,([]:List Int),ts,AQ ts,(0:Int),())=some (.inl (ts.filterMap (oth v k b),())):=by
 have e:=EH (step:=FD) (fun i (a:List Int)=>(v,k,b,a,ts,AQ ts,(i:Int),())) ts (fun t a=>.inl (AHt v k b t a)) (fun a=>.inl (a,())) (fun i a=>a.length≤i) (by omega)
  (fun i x a hi hx ha=>by
   refine⟨fun m' h' => ?_,fun r h'=>(by cases h')⟩
   cases h'
   refine⟨?_,AVu (AP1 v k b x a) (by omega)⟩
   rw[FD,AY,AR,AUr hi]
   simp only[Az hx,BS]
   rw[AK (by omega)]
   unfold AHt oth
   by_cases h1:x.2.2.1=k
   ·by_cases h2:x.2.2.2.1=b
    ·have hb:(x.2.2.2.1==b)=true:=by rw[h2];simp
     rw[AU4 ⟨h1,h2⟩,AUr h1,hb]
     by_cases h3:v=x.1
     ·rw[AUr h3,AU4 h3]
      simp only[AU7]
      rw[DO (by simp only[AY,AU0,AVU];omega),Og]
     ·rw[AUp h3,AUy h3]
      by_cases h4:v=x.2.1
      ·rw[AUr h4,AU4 h4]
       simp only[AU7]
       rw[DO (by simp only[AY,AU0,AVU];omega),Og]
      ·rw[AUp h4,AUy h4]
       rfl
    ·have hb:(x.2.2.2.1==b)=false:=by simpa using h2
     rw[AUy (fun c=>h2 c.2),AUr h1,hb]
     rfl
   ·rw[AUy (fun c=>h1 c.1),AUp h1]
    rfl)
  (fun a _=>by rw[FD,AY,AR,AUp (by omega)]) [] (by simp)
 have e':AZ FD many (v,k,b,([]:List Int),ts,AQ ts,(0:Int),())=_:=e
 rw[e',Bu (fun t a=>AHt v k b t a),AMP,AVc]
def nr(ts:List Tie)(v k:Int)(b:Bool)(u:Nat):Bool:=ts.any fun t=>D5 (u:Int) v t&&(decide (t.2.2.1=k)&&(t.2.2.2.1==b))
theorem AEs{N:Nat}{ts:List Tie}(ho:oks N ts){u v:Int}{t t':Tie}(ht:t∈ts)(ht':t'∈ts)(h:D5 u v t=true)(h':D5 u v t'=true):t=t':=by
 have hp:=((Lt N ts).1 ho).2
 obtain⟨i,hi,rfl⟩:=AVm ht
 obtain⟨j,hj,rfl⟩:=AVm ht'
 unfold D5 at h h'
 rw[AVX]at h h'
 rcases AWl i j with hij|hij|hij
 ·have:=AVa.1 hp i j hi hj hij
  unfold ahead at this
  omega
 ·subst hij;rfl
 ·have:=AVa.1 hp j i hj hi hij
  unfold ahead at this
  omega
theorem ATy{N:Nat}{ts:List Tie}(ho:oks N ts){v k:Int}{b:Bool}{u:Nat}{t:Tie}(ht:t∈ts)(h:D5 (u:Int) v t=true):nr ts v k b u=(decide (t.2.2.1=k)&&(t.2.2.2.1==b)):=by
 unfold nr
 rw[AWg,AWC]
 constructor
 ·rintro⟨t',ht',h'⟩
  rw[AUu]at h'
  rw[AEs ho ht ht' h h'.1]
  exact h'.2
 ·intro h2
  exact⟨t,ht,by rw[AUu];exact⟨h,h2⟩⟩
theorem Ls{v k:Int}{b:Bool}{t:Tie}{u:Int}(h:oth v k b t=some u):t.2.2.1=k∧t.2.2.2.1=b∧((v=t.1∧u=t.2.1)∨(v≠t.1∧v=t.2.1∧u=t.1)):=by
 unfold oth at h
 split at h
 ·rename_i h1
  split at h
  ·cases h;exact⟨h1.1,h1.2,.inl ⟨by assumption,rfl⟩⟩
  ·split at h
   ·cases h;exact⟨h1.1,h1.2,.inr ⟨by assumption,by assumption,rfl⟩⟩
   ·cases h
 ·cases h
theorem Xc{N:Nat}{ts:List Tie}(h:RG2 N ts)(v k:Int)(b:Bool):SI.sorted (ts.filterMap (oth v k b))=((List.range N).filter (nr ts v k b)).map (fun(u:Nat)=>(u:Int)):=by
 have hp:=((Lt N ts).1 h.oks).2
 refine List.Perm.eq_of_pairwise (le:=fun a b:Int=>a≤b) (fun a b _ _ h1 h2=>by omega) ?_ ?_ ?_
 ·unfold SI.sorted
  exact(List.pairwise_mergeSort (le:=fun x y:Int=>decide (x≤y)) (fun a b c h1 h2=>by rw[AVX]at *;omega) (fun a b=>by simp only[AV8,AVX];omega) _).imp fun h=>by simpa using h
 ·rw[AV6]
  exact((AWz (n:=N)).filter _).imp fun h=>by omega
 ·unfold SI.sorted
  refine(List.mergeSort_perm _ _).trans ?_
  rw[List.perm_ext_iff_of_nodup]
  ·intro u
   rw[List.mem_filterMap,AVD]
   constructor
   ·rintro⟨t,ht,hu⟩
    obtain⟨h1,h2,h3⟩:=Ls hu
    obtain⟨i1,i2,i3,_⟩:=h.tie ht
    obtain⟨m,rfl⟩:∃ m:Nat,u=(m:Int):=AUz (by have:=i1.2.2.1;have:=i2.2.2.1;omega)
    have hlt:m<N:=by have:=i1.2.2.2;have:=i2.2.2.2;omega
    refine⟨m,?_,rfl⟩
    rw[AVf,AWE]
    refine⟨hlt,?_⟩
    have hat:D5 (m:Int) v t=true:=by
     unfold D5
     rw[AVX]
     omega
    rw[ATy h.oks ht hat,h1,h2]
    simp
   ·rintro⟨m,hm,rfl⟩
    rw[AVf,AWE]at hm
    obtain⟨hlt,hn⟩:=hm
    unfold nr at hn
    rw[AWC]at hn
    obtain⟨t,ht,hn⟩:=hn
    rw[AUu,AUu,AVX,AWL]at hn
    obtain⟨h1,h2,h3⟩:=hn
    refine⟨t,ht,?_⟩
    obtain⟨i1,i2,i3,_⟩:=h.tie ht
    unfold D5 at h1
    rw[AVX]at h1
    unfold oth
    rw[AU4 ⟨h2,h3⟩]
    by_cases hv:v=t.1
    ·rw[AU4 hv];congr 1;omega
    ·rw[AUy hv,AU4 (by omega)];congr 1;omega
  ·rw[List.Nodup,List.pairwise_filterMap]
   refine hp.imp_of_mem fun {t t'} ht ht' ha u hu u' hu' => ?_
   obtain⟨_,_,h1⟩:=Ls hu
   obtain⟨_,_,h2⟩:=Ls hu'
   obtain⟨_,_,i3,_⟩:=h.tie ht
   obtain⟨_,_,j3,_⟩:=h.tie ht'
   unfold ahead at ha
   omega
  ·rw[List.Nodup,AV6]
   exact((AWz (n:=N)).filter _).imp fun h=>by omega
theorem AMx{N:Nat}{ts:List Tie}(h:RG2 N ts)(v k:Int)(b:Bool):Pu (((N:Int),(ts,())),v,k,b,())=some (if 0≤v∧v<(N:Int)then(((List.range N).filter (nr ts v k b)).map (fun(u:Nat)=>(u:Int)),0,())else([],10,())):=by
 have ht:=h.ht
 rw[AEg,RC]
 simp only[h.lr,AU7]
 rw[An,Aw]
 by_cases h1:v<0
 ·rw[AUr h1,AUy (by omega)]
 ·rw[AUp h1]
  by_cases h2:(N:Int)≤v
  ·rw[AUr h2,AUy (by omega)]
  ·rw[AUp h2,AU4 (by omega)]
   have hl:(ts.filterMap (oth v k b)).length≤ts.length:=List.length_filterMap_le ..
   simp only[AIX v k b ts h.ht,SI.ALo _ (show(ts.filterMap (oth v k b)).length<4294967296 by omega),Xc h]
end Go.Pev.Pl
end
section
namespace Go.Pev.Pl
open Tok
end Go.Pev.Pl
end
section
namespace Go.Pev.Pl
open Tok
theorem ABp:G5 ()=some (true,()):=by
 rw[show G5 () = @G5 idI ()from AWa (fun i=>@G5 i ()) Tf]
 kernel_rfl
theorem AFJ(n:Int)(ts:List Tie):J2 ((n,(ts,())),())=some (true,())∨(J2 ((n,(ts,())),())=some (false,())∧ts.length≤40∧n≤16):=by
 rw[UC,J1]
 simp only[AY,An]
 by_cases h1:(40:Int)<ts.length
 ·left;simp only[AUr h1]
 by_cases h2:(16:Int)<n
 ·left;simp only[AUp h1,AUr h2]
 ·right;simp only[AUp h1,AUp h2];exact⟨trivial,by omega,by omega⟩
section
variable (n:Int) (ts:List Tie)
end
end Go.Pev.Pl
end
section
namespace Go.Pev.Pl
open Tok
section
variable (a0:Int) (a1:List Tie) (a2 a3 a4:Int) (a5:List (List Int)) (a6:Int) (a7:List (List Int)) (p q:List Edge)
end
end Go.Pev.Pl
end
section
namespace Go.Pev.Pl
open Tok
theorem AEr(u v:Int):D5 u v=D5 v u:=by
 funext t
 unfold D5
 rw[Int.min_comm,Int.max_comm]
def IT(N:Nat)(ts:List Tie)(v k:Int)(b:Bool):List Int:=((List.range N).filter (nr ts v k b)).map (fun(u:Nat)=>(u:Int))
theorem Xd{N:Nat}{ts:List Tie}(h:RG2 N ts)(v k:Int)(b:Bool):(IT N ts v k b).length=(ts.filterMap (oth v k b)).length:=by
 unfold IT
 rw[← Xc h v k b]
 exact(List.mergeSort_perm _ _).length_eq
theorem AQF(N:Nat)(ts:List Tie)(v k:Int)(b:Bool):(IT N ts v k b).Pairwise (· < ·):=by
 unfold IT
 rw[AV6]
 exact(List.pairwise_lt_range.filter _).imp fun h=>by omega
theorem AMa{N:Nat}{ts:List Tie}{v k:Int}{b:Bool}{x:Int}(h:x∈IT N ts v k b):∃ t∈ts,D5 x v t=true∧t.2.2.1=k∧t.2.2.2.1=b:=by
 unfold IT at h
 obtain⟨u,hu,rfl⟩:=AVD.1 h
 rw[AVf]at hu
 unfold nr at hu
 obtain⟨t,ht,hh⟩:=AWC.1 hu.2
 rw[AUu,AUu,AVX,AWL]at hh
 exact⟨t,ht,hh.1,hh.2.1,hh.2.2⟩
theorem Lu(N:Nat)(ts:List Tie)(v k:Int)(b:Bool):(IT N ts v k b).length≤N:=by
 unfold IT
 rw[AWS]
 have:=List.length_filter_le (nr ts v k b) (List.range N)
 rw[AVS]at this
 exact this
theorem ASQ{N:Nat}{ts:List Tie}(h:RG2 N ts)(a2:Int)(a3 a4:List Int)(a5 k:Int)(v:Int)(t:Nat)(b:Bool)(hb:ieq (t:Int) 0=b):
  AZ B4 many ((N:Int),ts,a2,a3,a4,a5,k,v,(t:Int),IT N ts v k b,(0:Int),())=some (.inr (.inl ((N:Int),ts,a2,a3,a4,a5,k,v,(t:Int),IT N ts v k b,()))):=by
 have hN:=h.hN
 have hle:=Lu N ts v k b
 have hup:=AQF N ts v k b
 have hmem:=fun x=>AMa (N:=N) (ts:=ts) (v:=v) (k:=k) (b:=b) (x:=x)
 generalize IT N ts v k b=l at *
 have e:=P2 (step:=B4) (fun i=>((N:Int),ts,a2,a3,a4,a5,k,v,(t:Int),l,(i:Int),())) l (fun _=>false) (fun _=>.inl (false,())) (.inr (.inl ((N:Int),ts,a2,a3,a4,a5,k,v,(t:Int),l,()))) (by omega)
  (fun i x hi hx=>by
   obtain⟨y,hy,q1,q2,q3⟩:=hmem x (AU9 hx)
   have hany:ts.any (D5 v x)=true:=by rw[AEr];exact AWC.2 ⟨y,hy,q1⟩
   have hkl:ts.findIdx (D5 v x)<ts.length:=AWf.2 (AWC.1 hany)
   have hat:=AXC (xs:=ts) (p:=D5 v x) (w:=hkl)
   have hg:ts[ts.findIdx (D5 v x)]? = some ts[ts.findIdx (D5 v x)]:=AUx hkl
   have hm:=AWe hkl
   have hf:=AM2 h v x
   rw[hany,AU4 rfl]at hf
   generalize ts.findIdx (D5 v x)=p at *
   generalize ts[p]=z at *
   have hz:z=y:=AEs h.oks hm hy (by rw[AEr];exact hat) q1
   subst hz
   unfold B4
   dsimp only
   rw[AY,AR,AUr hi]
   simp only[Az hx,X2 hx]
   have e1:ilt (p:Int) 0=false:=by rw[An,AUp (by omega)]
   have e2:ile (AQ ts) (p:Int)=false:=by rw[AY,Aw,AUp (by omega)]
   simp only[hf,e1,e2,Az hg,q2,q3,HW,AU7,hb,beq_self_eq_true]
   by_cases h0:0<i
   ·have hj:i-1<l.length:=by omega
    have hx1:l[i-1]? = some l[i-1]:=AUx hj
    have hlt:l[i-1]<x:=by
     have h9:=AVa.1 hup (i-1) i hj hi (by omega)
     rw[(AVO.1 hx).2]at h9
     exact h9
    rw[An,AUr (show(0:Int)<(i:Int) by omega),Af (by omega)]
    simp only[Az hx1,X2 hx1]
    rw[Aw,AUp (by omega),AK (by omega)]
    rfl
   ·rw[An,AUp (show ¬ (0:Int)<(i:Int) by omega),AK (by omega)]
    rfl)
  (by unfold B4;dsimp only;rw[AY,AR,AUp (by omega)])
 have e':AZ B4 many ((N:Int),ts,a2,a3,a4,a5,k,v,(t:Int),l,(0:Int),())=_:=e
 rw[e']
 simp
def Fg(ts:List Tie)(v k:Int):Nat:=(ts.filterMap (oth v k true)).length+(ts.filterMap (oth v k false)).length
theorem ABL{N:Nat}{ts:List Tie}(h:RG2 N ts)(v k:Int):Fg ts v k≤128:=by
 have h1:=Lu N ts v k true
 have h2:=Lu N ts v k false
 rw[Xd h]at h1 h2
 have:=h.hN
 unfold Fg
 omega
theorem ASR{N:Nat}{ts:List Tie}(h:RG2 N ts)(q:Nat)(hq:q≤1000000)(a3 a4:List Int)(a5 k:Int)(v:Nat)(hv:v<N):
  AZ Bc many ((N:Int),ts,(q:Int),a3,a4,a5,k,(v:Int),(0:Int),())=some (.inr (.inl ((N:Int),ts,((q+Fg ts v k:Nat):Int),a3,a4,a5,k,(v:Int),()))):=by
 have hN:=h.hN
 have hn:∀ b,Pu (((N:Int),(ts,())),(v:Int),k,b,())=some (IT N ts (v:Int) k b,0,()):=fun b=>by
  rw[AMx h,AU4 (by omega)]
  rfl
 have step:∀ (t:Nat) (b:Bool) (q:Nat),t<2→ieq (t:Int) 0=b→q≤2000000→Bc ((N:Int),ts,(q:Int),a3,a4,a5,k,(v:Int),(t:Int),())=some (.inl ((N:Int),ts,((q+(ts.filterMap (oth v k b)).length:Nat):Int),a3,a4,a5,k,(v:Int),((t+1:Nat):Int),())):=by
  intro t b q ht hb hq
  have hl:=Lu N ts (v:Int) k b
  have hll:=Xd h (v:Int) k b
  unfold Bc
  dsimp only
  rw[An,AUr (show(t:Int)<2 by omega),hb]
  simp only[hn,HW,AU7,ASQ h (q:Int) a3 a4 a5 k (v:Int) t b hb,AY,hll]
  rw[wrap_add (by omega),AK (by omega)]
 have hend:∀ q:Nat,Bc ((N:Int),ts,(q:Int),a3,a4,a5,k,(v:Int),((2:Nat):Int),())=some (.inr (.inr (.inl ((N:Int),ts,(q:Int),a3,a4,a5,k,(v:Int),())))):=fun q=>by
  unfold Bc
  dsimp only
  rw[An,AUp (by omega)]
 have hd:=ABL h (v:Int) k
 unfold Fg at hd ⊢
 obtain⟨m,hmany⟩:∃ m,many=m+1+1+1:=⟨many-3,by simp only[many]⟩
 have s0:=step 0 true q (by omega) (by rw[BS];rfl) (by omega)
 have s1:=step 1 false (q+(ts.filterMap (oth v k true)).length) (by omega) (by rw[BS];rfl) (by omega)
 have s0':Bc ((N:Int),ts,(q:Int),a3,a4,a5,k,(v:Int),(0:Int),())=_:=s0
 have s1':Bc ((N:Int),ts,((q+(ts.filterMap (oth v k true)).length:Nat):Int),a3,a4,a5,k,(v:Int),((0+1:Nat):Int),())=_:=s1
 rw[Ak,hmany,AT,s0']
 simp only[]
 rw[AT,s1']
 simp only[]
 rw[AT,hend,AWU]
theorem ASS{N:Nat}{ts:List Tie}(h:RG2 N ts)(q:Nat)(hq:q≤800000)(a3 a4:List Int)(a5 k:Int):
  AZ B5 many ((N:Int),ts,(q:Int),a3,a4,a5,k,(0:Int),())=some (.inr (.inl ((N:Int),ts,((q+((List.range N).map fun(v:Nat)=>Fg ts v k).sum:Nat):Int),a3,a4,a5,k,()))):=by
 have hN:=h.hN
 have e:=EH (step:=B5) (fun v (a:Nat)=>((N:Int),ts,(a:Int),a3,a4,a5,k,(v:Int),())) (List.range N) (fun(v:Nat) a=>.inl (a+Fg ts v k)) (fun a=>.inr (.inl ((N:Int),ts,(a:Int),a3,a4,a5,k,()))) (fun i a=>a≤800000+128*i) (by simp;omega)
  (fun i x a hi hx ha=>by
   refine⟨fun m' h' => ?_,fun r h'=>(by cases h')⟩
   cases h'
   have:=Dc hx
   subst this
   rw[AVS]at hi
   have hd:=ABL h (x:Int) k
   refine⟨?_,by omega⟩
   unfold B5
   dsimp only
   rw[AR,AUr hi]
   simp only[ASR h a (by omega) a3 a4 a5 k x hi]
   rw[AK (by omega)])
  (fun a _=>by unfold B5;dsimp only;rw[AVS,AR,AUp (by omega)]) q (by omega)
 have e':AZ B5 many ((N:Int),ts,(q:Int),a3,a4,a5,k,(0:Int),())=_:=e
 have hs:∀ (xs:List Nat) (a:Nat),xs.foldl (fun(a:Nat) (v:Nat)=>a+Fg ts v k) a=a+(xs.map fun(v:Nat)=>Fg ts v k).sum:=by
  intro xs
  induction xs with
  |nil=>intro a;rfl
  |cons x xs ih=>intro a;rw[AVo,ih,AVI,AWk,AWU]
 rw[e',Bu (fun(v:Nat) (a:Nat)=>a+Fg ts v k),hs]
theorem Qw(f:Nat→Nat)(a:Nat):∀ n:Nat,((List.range n).map fun k=>if k=a then f k else 0).sum=if a<n then f a else 0:=by
 intro n
 induction n with
 |zero=>rfl
 |succ n ih=>
  rw[AV9,AWR,List.sum_append,ih,List.map_singleton,List.sum_singleton]
  by_cases h:n=a
  ·subst h
   rw[AUy (by omega),AU4 rfl,AU4 (by omega)]
   omega
  ·rw[AUy h]
   by_cases h2:a<n
   ·rw[AU4 h2,AU4 (by omega)];rfl
   ·rw[AUy h2,AUy (by omega)]
theorem sum_add(f g:Nat→Nat)(xs:List Nat):(xs.map fun k=>f k+g k).sum=(xs.map f).sum+(xs.map g).sum:=by
 induction xs with
 |nil=>rfl
 |cons x xs ih=>simp only[AVI,AWk,ih];omega
theorem ACc(xs:List Nat):(xs.map fun _=>0).sum=0:=by
 induction xs with
 |nil=>rfl
 |cons x xs ih=>simp only[AVI,AWk,ih]
theorem ANr(t:Tie)(ts:List Tie)(hlt:t.1<t.2.1)(v k:Int):Fg (t::ts) v k=Fg ts v k+if t.2.2.1=k then(if v=t.1 then 1 else 0)+(if v=t.2.1 then 1 else 0)else 0:=by
 have key:∀ b,((t::ts).filterMap (oth v k b)).length=(ts.filterMap (oth v k b)).length+if t.2.2.1=k∧t.2.2.2.1=b∧(v=t.1∨v=t.2.1)then 1 else 0:=by
  intro b
  rw[List.filterMap_cons]
  cases ho:oth v k b t with
  |none=>
   rw[AUy]
   ·rfl
   ·rintro⟨h1,h2,h3⟩
    unfold oth at ho
    simp only[h1,h2]at ho
    rcases h3 with rfl|rfl
    ·simp at ho
    ·simp at ho
     split at ho<;>simp at ho
  |some u=>
   obtain⟨h1,h2,h3⟩:=Ls ho
   rw[AU4 ⟨h1,h2,by rcases h3 with⟨h3,_⟩|⟨_,h3,_⟩;exact .inl h3;exact .inr h3⟩]
   simp
 unfold Fg
 rw[key,key]
 by_cases h1:t.2.2.1=k
 ·rw[AU4 h1]
  cases hb:t.2.2.2.1
  ·by_cases hv:v=t.1
   ·rw[AUy (by simp),AU4 ⟨h1,rfl,.inl hv⟩,AU4 hv,AUy (by omega)];omega
   ·by_cases hv2:v=t.2.1
    ·rw[AUy (by simp),AU4 ⟨h1,rfl,.inr hv2⟩,AUy hv,AU4 hv2];omega
    ·rw[AUy (by simp),AUy (by simp[hv,hv2]),AUy hv,AUy hv2]
     omega
  ·by_cases hv:v=t.1
   ·rw[AU4 ⟨h1,rfl,.inl hv⟩,AUy (by simp),AU4 hv,AUy (by omega)];omega
   ·by_cases hv2:v=t.2.1
    ·rw[AU4 ⟨h1,rfl,.inr hv2⟩,AUy (by simp),AUy hv,AU4 hv2];omega
    ·rw[AUy (by simp[hv,hv2]),AUy (by simp),AUy hv,AUy hv2]
     omega
 ·rw[AUy h1,AUy (fun q=>h1 q.1),AUy (fun q=>h1 q.1)]
  omega
theorem AQE(N top:Nat):∀ ts:List Tie,(∀ t∈ts,(0≤t.1∧t.1<t.2.1∧t.2.1<(N:Int))∧0≤t.2.2.1∧t.2.2.1≤(top:Int)) →
  ((List.range (top+1)).map fun(k:Nat)=>((List.range N).map fun(v:Nat)=>Fg ts v k).sum).sum=2*ts.length:=by
 intro ts
 induction ts with
 |nil=>
  intro _
  have:∀ v k:Int,Fg [] v k=0:=fun _ _=>rfl
  simp only[this,ACc,AVU]
 |cons t ts ih=>
  intro h
  obtain⟨⟨a1,a2,a3⟩,a4,a5⟩:=h t (by simp)
  have hi:=ih fun x hx=>h x (by simp[hx])
  obtain⟨u,hu⟩:=AUz a1
  obtain⟨w,hw⟩:=AUz (show 0≤t.2.1 by omega)
  obtain⟨l,hl⟩:=AUz a4
  have e1:∀ k:Nat,((List.range N).map fun(v:Nat)=>Fg (t::ts) v k).sum=((List.range N).map fun(v:Nat)=>Fg ts v k).sum+(if k=l then 2 else 0):=by
   intro k
   have:(fun(v:Nat)=>Fg (t::ts) v k)=fun(v:Nat)=>Fg ts v k+((if v=u then(if k=l then 1 else 0)else 0)+(if v=w then(if k=l then 1 else 0)else 0)):=by
    funext v
    rw[ANr t ts a2,hu,hw,hl]
    by_cases h1:k=l
    ·subst h1
     simp only[AVM]
     congr 2
     ·by_cases h2:v=u
      ·subst h2;simp
      ·rw[AUy (by omega),AUy h2]
     ·by_cases h2:v=w
      ·subst h2;simp
      ·rw[AUy (by omega),AUy h2]
    ·rw[AUy (by omega)]
     simp only[h1,AU3]
     split<;>split<;>rfl
   rw[this,sum_add,sum_add,Qw (fun _=>if k=l then 1 else 0),Qw (fun _=>if k=l then 1 else 0),AU4 (show u<N by omega),AU4 (show w<N by omega)]
   by_cases h1:k=l
   ·simp only[h1,AVM]
   ·simp only[h1,AU3]
  simp only[e1]
  rw[sum_add,hi,Qw (fun _=>2),AU4 (by omega),AU0]
  omega
theorem ATG(top:Nat):∀ ts:List Tie,(∀ t∈ts,0≤t.2.2.1∧t.2.2.1≤(top:Int))→((List.range (top+1)).map fun(k:Nat)=>EG true ts k+EG false ts k).sum=ts.length:=by
 intro ts
 induction ts with
 |nil=>
  intro _
  have:∀ b (k:Int),EG b [] k=0:=fun _ _=>rfl
  simp only[this,AVU]
  exact ACc _
 |cons t ts ih=>
  intro h
  obtain⟨a4,a5⟩:=h t (by simp)
  have hi:=ih fun x hx=>h x (by simp[hx])
  obtain⟨l,hl⟩:=AUz a4
  have e1:(fun(k:Nat)=>EG true (t::ts) k+EG false (t::ts) k)=fun(k:Nat)=>(EG true ts k+EG false ts k)+(if k=l then 1 else 0):=by
   funext k
   unfold EG
   rw[AWd,AWd,hl]
   by_cases h1:k=l
   ·subst h1
    cases t.2.2.2.1<;>simp<;>omega
   ·have h2:¬ (l:Int)=(k:Int):=by omega
    simp[h1,h2]
  rw[e1,sum_add,hi,Qw (fun _=>1),AU4 (by omega),AU0]
theorem AGY(f:Nat→Nat)(c:Nat)(h:∀ k,f k≤c)(xs:List Nat):(xs.map f).sum≤xs.length*c:=by
 induction xs with
 |nil=>simp
 |cons x xs ih=>
  have:=h x
  rw[AVI,AWk,AU0,AVj]
  omega
theorem AST{N:Nat}{ts:List Tie}(h:RG2 N ts):
  AZ B6 many ((N:Int),ts,(0:Int),CN true ts (EJ N+1),CN false ts (EJ N+1),(0:Int),(0:Int),())=some (.inr (.inl ((N:Int),ts,((2*ts.length:Nat):Int),(ts.length:Int),()))):=by
 have hN:=h.hN
 have hT:=AJ9 h.hN
 have hTe:=Qu h.hN
 have ht:=h.ht
 have hdl:∀ k:Int,((List.range N).map fun(v:Nat)=>Fg ts v k).sum≤64*128:=fun k=>by
  have:=AGY (fun v=>Fg ts v k) 128 (fun v=>ABL h v k) (List.range N)
  rw[AVS]at this
  have h2:N*128≤64*128:=AVZ _ hN
  omega
 have e:=EH (step:=B6) (fun k (a:Nat×Nat)=>((N:Int),ts,(a.1:Int),CN true ts (EJ N+1),CN false ts (EJ N+1),(a.2:Int),(k:Int),())) (List.range (EJ N+1))
  (fun(k:Nat) a=>.inl (a.1+((List.range N).map fun(v:Nat)=>Fg ts v k).sum,a.2+(EG true ts k+EG false ts k))) (fun a=>.inr (.inl ((N:Int),ts,(a.1:Int),(a.2:Int),()))) (fun i a=>a.1≤8192*i∧a.2≤800*i) (by simp;omega)
  (fun i x a hi hx ha=>by
   refine⟨fun m' h' => ?_,fun r h'=>(by cases h')⟩
   cases h'
   have:=Dc hx
   subst this
   rw[AVS]at hi
   have hd:=hdl (x:Int)
   have c1:=ABR true ts (x:Int)
   have c2:=ABR false ts (x:Int)
   refine⟨?_,by constructor<;>(simp only;omega)⟩
   have i1:(CN true ts (EJ N+1)).getD x 0=(EG true ts (x:Int):Int):=by simp[CN,hi]
   have i2:(CN false ts (EJ N+1)).getD x 0=(EG false ts (x:Int):Int):=by simp[CN,hi]
   unfold B6
   dsimp only
   simp only[NX N h.hN,hTe]
   rw[BR,AUr (by omega)]
   simp only[ASS h a.1 (by omega) _ _ (a.2:Int) (x:Int),AY,Hf]
   rw[BR,AUp (by omega)]
   simp only[IU (0:Int) (show x<(CN true ts (EJ N+1)).length by rw[Hf];exact hi),IU (0:Int) (show x<(CN false ts (EJ N+1)).length by rw[Hf];exact hi),Oe,i1,i2]
   rw[wrap_add (by omega),wrap_add (by omega),AK (by omega),AWU])
  (fun a _=>by
   unfold B6
   dsimp only
   simp only[NX N h.hN,hTe,AVS]
   rw[BR,AUp (by omega)]) (0,0) (by simp)
 have e':AZ B6 many ((N:Int),ts,(0:Int),CN true ts (EJ N+1),CN false ts (EJ N+1),(0:Int),(0:Int),())=_:=e
 have hs:∀ (xs:List Nat) (a:Nat×Nat),xs.foldl (fun(a:Nat×Nat) (k:Nat)=>(a.1+((List.range N).map fun(v:Nat)=>Fg ts v k).sum,a.2+(EG true ts k+EG false ts k))) a=(a.1+(xs.map fun(k:Nat)=>((List.range N).map fun(v:Nat)=>Fg ts v k).sum).sum,a.2+(xs.map fun(k:Nat)=>EG true ts k+EG false ts k).sum):=by
  intro xs
  induction xs with
  |nil=>intro a;rfl
  |cons x xs ih=>intro a;rw[AVo,ih,AVI,AWk,AVI,AWk,AWU,AWU]
 rw[e',Bu (fun(k:Nat) (a:Nat×Nat)=>(a.1+((List.range N).map fun(v:Nat)=>Fg ts v k).sum,a.2+(EG true ts k+EG false ts k))),hs]
 have hT2:∀ t∈ts,0≤t.2.2.1∧t.2.2.1≤(EJ N:Int):=fun t htm=>by
  have:=h.tie htm
  exact⟨this.2.2.2.1,by have:=this.2.2.2.2;omega⟩
 have g1:=AQE N (EJ N) ts fun t htm=>⟨by
  obtain⟨i1,i2,i3,_⟩:=h.tie htm
  exact⟨i1.2.2.1,i3,i2.2.2.2⟩,hT2 t htm⟩
 have g2:=ATG (EJ N) ts hT2
 simp only[g1,g2,AVs]
theorem Tj(g:Int×List Tie×Unit)
  (h0:wfD (.prod (.int .i64) (.prod (.slice (.prod (.int .i64) (.prod (.int .i64) (.prod (.int .i64) (.prod .bool .unit))))) .unit)) g):Fp (g,())=some (true,()):=by
 obtain⟨n,ts,⟨⟩⟩:=g
 rw[L8,Gr]
 simp only[ABp,AU7]
 rcases AFJ n ts with g1|⟨g1,g2,g3⟩
 ·simp only[g1]
 simp only[g1]
 rcases ALy n ts (by omega)with⟨r1,r⟩|⟨N,rfl,h⟩
 ·simp only[r1,AVg]
 have hw:IntKind.wrap .i64 ((2:Int)*(ts.length:Int))=((2*ts.length:Nat):Int):=NS (by omega)
 simp only[h.r21,AU7,AEo h,AST h,AY,hw,HW]
end Go.Pev.Pl
end
section
namespace Go.Pev.Pl
open Tok
end Go.Pev.Pl
end
section
namespace Go.Pev
open Go.Proofs
noncomputable section
abbrev T1:Hints:={ loop:=fun n=>match n with|0=>Ad 0 26 Xp Xo OQ|_=>fun _ _ _=>none,fp:=fun n=>match n with|6=>[[],[],[],[],[],[],[],[],[]]|_=>[] }
theorem AAo:∀ v,OQ v=roundOf Try.prog Env.none T1 1 0 26 (AB Try.f15 0) Xp Xo v:=by
 rintro⟨a0,a1,a2,⟨⟩⟩
 kernel_rfl
theorem AND:AD (AB Try.f15 0) 1=[]:=by kernel_rfl
theorem ANE:Ac Try.prog 0 (.loop (AB Try.f15 0)) (T1.loop 0):=AW Env.Z1 (AAo) (AA AND trivial)
theorem AIn:∀ v,T2 v=AO Try.prog Env.none T1 Try.f15 Tz Tx Tw v:=by
 rintro⟨a0,a1,⟨⟩⟩
 kernel_rfl
theorem AQX:AD (AU Try.f15) 0=[(0,AB Try.f15 0)]:=by kernel_rfl
theorem AEt:AP Try.prog 15 (AG 2 Tz Tx Tw OR):=AI Env.Z1 Try.func15 (by kernel_rfl) (by kernel_rfl) rfl (fun v=>(ANF v).trans (AIn v)) (AA AQX ⟨ANE,trivial⟩)
def Vs:Env:=Env.none.ext 15 true true (AG 2 Tz Tx Tw OR)
theorem QN:Ae Try.prog Vs:=Env.Ai Env.Z1 AEt (fun _=>AM rfl rfl) (fun _=>AH rfl rfl)
abbrev AOW:Hints:={  }
theorem AGL:∀ v,LU v=AO Try.prog Vs AOW Try.f44 Rj Ri Rh v:=by
 rintro⟨a0,⟨⟩⟩
 kernel_rfl
theorem AOV:AD (AU Try.f44) 0=[]:=by kernel_rfl
theorem ACP:AP Try.prog 44 (AG 1 Rj Ri Rh Ie):=AI QN Try.func44 (by kernel_rfl) (by kernel_rfl) rfl (fun v=>(W6 v).trans (AGL v)) (AA AOV trivial)
def Vf:Env:=Vs.ext 44 true true (AG 1 Rj Ri Rh Ie)
theorem QF:Ae Try.prog Vf:=Env.Ai QN ACP (fun _=>AM rfl rfl) (fun _=>AH rfl rfl)
abbrev AUU:Hints:={  }
theorem ARq:∀ v,AKB v=AO Try.prog Vf AUU Try.f65 AOo AOn AOm v:=by
 rintro⟨a0,a1,⟨⟩⟩
 kernel_rfl
theorem AUT:AD (AU Try.f65) 0=[]:=by kernel_rfl
theorem AOl:AP Try.prog 65 (AG 2 AOo AOn AOm tin):=AI QF Try.func65 (by kernel_rfl) (by kernel_rfl) rfl (fun v=>(AOp v).trans (ARq v)) (AA AUT trivial)
def ARd:Env:=Vf.ext 65 true true (AG 2 AOo AOn AOm tin)
theorem AGC:Ae Try.prog ARd:=Env.Ai QF AOl (fun _=>AM rfl rfl) (fun _=>AH rfl rfl)
abbrev ATk:Hints:={  }
theorem AOu:∀ v,Yv v=AO Try.prog ARd ATk Try.f59 AGX AGW AGV v:=by
 rintro⟨a0,a1,a2,⟨⟩⟩
 kernel_rfl
theorem ATj:AD (AU Try.f59) 0=[]:=by kernel_rfl
theorem ALi:AP Try.prog 59 (AG 3 AGX AGW AGV ALj):=AI AGC Try.func59 (by kernel_rfl) (by kernel_rfl) rfl (fun v=>(AKC v).trans (AOu v)) (AA ATj trivial)
def AJz:Env:=ARd.ext 59 true true (AG 3 AGX AGW AGV ALj)
theorem YH:Ae Try.prog AJz:=Env.Ai AGC ALi (fun _=>AM rfl rfl) (fun _=>AH rfl rfl)
abbrev AOU:Hints:={ fp:=fun n=>match n with|5=>[[],[],[],[],[],[],[],[],[]]|_=>[] }
theorem AGK:∀ v,LS v=AO Try.prog AJz AOU Try.f83 Rf Re Rd v:=by
 rintro⟨a0,a1,⟨⟩⟩
 kernel_rfl
theorem AOT:AD (AU Try.f83) 0=[]:=by kernel_rfl
theorem ACO:AP Try.prog 83 (AG 2 Rf Re Rd Rg):=AI YH Try.func83 (by kernel_rfl) (by kernel_rfl) rfl (fun v=>(W5 v).trans (AGK v)) (AA AOT trivial)
def Mv:Env:=AJz.ext 83 true true (AG 2 Rf Re Rd Rg)
theorem JW:Ae Try.prog Mv:=Env.Ai YH ACO (fun _=>AM rfl rfl) (fun _=>AH rfl rfl)
abbrev Yq:Hints:={ loop:=fun n=>match n with|0=>Ad 0 25 ACZ ACY F8|_=>fun _ _ _=>none }
theorem ACX:∀ v,F8 v=roundOf Try.prog Mv Yq 1 0 25 (AB Try.f29 0) ACZ ACY v:=by
 rintro⟨a0,a1,a2,a3,a4,⟨⟩⟩
 kernel_rfl
theorem AOj:AD (AB Try.f29 0) 1=[]:=by kernel_rfl
theorem AOk:Ac Try.prog 0 (.loop (AB Try.f29 0)) (Yq.loop 0):=AW JW (ACX) (AA AOj trivial)
theorem ALg:∀ v,Qv v=AO Try.prog Mv Yq Try.f29 Yp Yo Yn v:=by
 rintro⟨a0,⟨⟩⟩
 kernel_rfl
theorem ARn:AD (AU Try.f29) 0=[(0,AB Try.f29 0)]:=by kernel_rfl
theorem AGS:AP Try.prog 29 (AG 1 Yp Yo Yn ACb):=AI JW Try.func29 (by kernel_rfl) (by kernel_rfl) rfl (fun v=>(ACa v).trans (ALg v)) (AA ARn ⟨AOk,trivial⟩)
def RQ:Env:=Mv.ext 29 true true (AG 1 Yp Yo Yn ACb)
theorem LD:Ae Try.prog RQ:=Env.Ai JW AGS (fun _=>AM rfl rfl) (fun _=>AH rfl rfl)
abbrev T9:Hints:={ loop:=fun n=>match n with|0=>Ad 0 19 Xr Xq EV|_=>fun _ _ _=>none }
theorem AAr:∀ v,EV v=roundOf Try.prog RQ T9 1 0 19 (AB Try.f79 0) Xr Xq v:=by
 rintro⟨a0,a1,a2,a3,⟨⟩⟩
 kernel_rfl
theorem ANJ:AD (AB Try.f79 0) 1=[]:=by kernel_rfl
theorem ANK:Ac Try.prog 0 (.loop (AB Try.f79 0)) (T9.loop 0):=AW LD (AAr) (AA ANJ trivial)
theorem AIy:∀ v,ME v=AO Try.prog RQ T9 Try.f79 T8 T7 T6 v:=by
 rintro⟨a0,a1,⟨⟩⟩
 kernel_rfl
theorem AQg:AD (AU Try.f79) 0=[(0,AB Try.f79 0)]:=by kernel_rfl
theorem AEu:AP Try.prog 79 (AG 2 T8 T7 T6 Kv):=AI LD Try.func79 (by kernel_rfl) (by kernel_rfl) rfl (fun v=>(Xs v).trans (AIy v)) (AA AQg ⟨ANK,trivial⟩)
def Vt:Env:=RQ.ext 79 true true (AG 2 T8 T7 T6 Kv)
theorem QO:Ae Try.prog Vt:=Env.Ai LD AEu (fun _=>AM rfl rfl) (fun _=>AH rfl rfl)
abbrev AFf:Hints:={  }
theorem Wp:∀ v,G2 v=AO Try.prog Vt AFf Try.f68 JM JL JK v:=by
 rintro⟨a0,a1,⟨⟩⟩
 kernel_rfl
theorem AFe:AD (AU Try.f68) 0=[]:=by kernel_rfl
theorem VA:AP Try.prog 68 (AG 2 JM JL JK Ej):=AI QO Try.func68 (by kernel_rfl) (by kernel_rfl) rfl (fun v=>(Mb v).trans (Wp v)) (AA AFe trivial)
def HA:Env:=Vt.ext 68 true true (AG 2 JM JL JK Ej)
theorem Gh:Ae Try.prog HA:=Env.Ai QO VA (fun _=>AM rfl rfl) (fun _=>AH rfl rfl)
abbrev AIE:Hints:={ loop:=fun n=>match n with|0=>Ad 0 25 AKh AKg H0|_=>fun _ _ _=>none }
theorem AIA:∀ v,H0 v=roundOf Try.prog HA AIE 1 0 25 (AB Try.f76 0) AKh AKg v:=by
 rintro⟨a0,a1,a2,⟨⟩⟩
 kernel_rfl
theorem ASV:AD (AB Try.f76 0) 1=[]:=by kernel_rfl
theorem ASW:Ac Try.prog 0 (.loop (AB Try.f76 0)) (AIE.loop 0):=AW Gh (AIA) (AA ASV trivial)
theorem AQH:∀ v,Z5 v=AO Try.prog HA AIE Try.f76 AID AIC AIB v:=by
 rintro⟨a0,⟨⟩⟩
 kernel_rfl
theorem AT1:AD (AU Try.f76) 0=[(0,AB Try.f76 0)]:=by kernel_rfl
theorem AMe:AP Try.prog 76 (AG 1 AID AIC AIB AMf):=AI Gh Try.func76 (by kernel_rfl) (by kernel_rfl) rfl (fun v=>(AKi v).trans (AQH v)) (AA AT1 ⟨ASW,trivial⟩)
def AJ4:Env:=HA.ext 76 true true (AG 1 AID AIC AIB AMf)
theorem YM:Ae Try.prog AJ4:=Env.Ai Gh AMe (fun _=>AM rfl rfl) (fun _=>AH rfl rfl)
abbrev AS4:Hints:={  }
theorem ANZ:∀ v,RK v=AO Try.prog AJ4 AS4 Try.f71 AA6 AA5 AA4 v:=by
 rintro⟨a0,⟨⟩⟩
 kernel_rfl
theorem AS3:AD (AU Try.f71) 0=[]:=by kernel_rfl
theorem AI3:AP Try.prog 71 (AG 2 AA6 AA5 AA4 AFI):=AI YM Try.func71 (by kernel_rfl) (by kernel_rfl) rfl (fun v=>(AFH v).trans (ANZ v)) (AA AS3 trivial)
def NH:Env:=AJ4.ext 71 false true (AG 2 AA6 AA5 AA4 AFI)
theorem IQ:Ae Try.prog NH:=Env.Ai YM AI3 ((by simp)) (fun _=>AH rfl rfl)
abbrev Hd:Hints:={ loop:=fun n=>match n with|0=>Ad 0 36 VF VD Dg|1=>Ad 0 36 VE VC Df|_=>fun _ _ _=>none }
theorem Wr:∀ v,Df v=roundOf Try.prog NH Hd 2 0 36 (AB Try.f58 1) VE VC v:=by
 rintro⟨a0,a1,a2,a3,⟨⟩⟩
 kernel_rfl
theorem AJU:AD (AB Try.f58 1) 2=[]:=by kernel_rfl
theorem AJW:Ac Try.prog 0 (.loop (AB Try.f58 1)) (Hd.loop 1):=AW IQ (Wr) (AA AJU trivial)
theorem Ws:∀ v,Dg v=roundOf Try.prog NH Hd 1 0 36 (AB Try.f58 0) VF VD v:=by
 rintro⟨a0,a1,a2,a3,a4,⟨⟩⟩
 kernel_rfl
theorem AJV:AD (AB Try.f58 0) 1=[]:=by kernel_rfl
theorem AJX:Ac Try.prog 0 (.loop (AB Try.f58 0)) (Hd.loop 0):=AW IQ (Ws) (AA AJV trivial)
theorem AFi:∀ v,J3 v=AO Try.prog NH Hd Try.f58 Oj Oi Oh v:=by
 rintro⟨a0,⟨⟩⟩
 kernel_rfl
theorem ANu:AD (AU Try.f58) 0=[(0,AB Try.f58 0),(1,AB Try.f58 1)]:=by kernel_rfl
theorem ABO:AP Try.prog 58 (AG 1 Oj Oi Oh IB):=AI IQ Try.func58 (by kernel_rfl) (by kernel_rfl) rfl (fun v=>(VG v).trans (AFi v)) (AA ANu ⟨AJX,AJW,trivial⟩)
def PH:Env:=NH.ext 58 true true (AG 1 Oj Oi Oh IB)
theorem NJ:Ae Try.prog PH:=Env.Ai IQ ABO (fun _=>AM rfl rfl) (fun _=>AH rfl rfl)
theorem ALw:Try.f81.body.isSome=true:=by kernel_rfl
theorem ALv : (Try.f81.name == "runtime.NumGoroutine") = false := by kernel_rfl
theorem ALu:loops (AU Try.f81)=0:=by kernel_rfl
def G8:Env:=PH.ext 81 false false (FA Try.prog PH {} Try.f81)
theorem Gf:Ae Try.prog G8:=Env.Ai NJ (Gs NJ Try.func81 ALw ALv ALu) (by simp) (by simp)
end
end Go.Pev
end
section
namespace Go.Pev
open Go.Proofs
noncomputable section
abbrev GP:Hints:={ loop:=fun n=>match n with|0=>Ad 0 19 IW IV Bn|_=>fun _ _ _=>none }
theorem Ky:∀ v,Bn v=roundOf Try.prog G8 GP 1 0 19 (AB Try.f78 0) IW IV v:=by
 rintro⟨a0,a1,a2,⟨⟩⟩
 kernel_rfl
theorem Qc:AD (AB Try.f78 0) 1=[]:=by kernel_rfl
theorem Qd:Ac Try.prog 0 (.loop (AB Try.f78 0)) (GP.loop 0):=AW Gf (Ky) (AA Qc trivial)
theorem OV:∀ v,D8 v=AO Try.prog G8 GP Try.f78 GO GN GM v:=by
 rintro⟨a0,⟨⟩⟩
 kernel_rfl
theorem UB:AD (AU Try.f78) 0=[(0,AB Try.f78 0)]:=by kernel_rfl
theorem MN:AP Try.prog 78 (AG 2 GO GN GM Fe):=AI Gf Try.func78 (by kernel_rfl) (by kernel_rfl) rfl (fun v=>(IX v).trans (OV v)) (AA UB ⟨Qd,trivial⟩)
def Gg:Env:=G8.FP 78 1 81 (AG 2 GO GN GM Fe)
theorem G9:Ae Try.prog Gg:=Env.Bd Gf MN (AH rfl rfl)
abbrev Qg:Hints:={  }
theorem Me:∀ v,DY v=AO Try.prog Gg Qg Try.f63 FV FU FT v:=by
 rintro⟨a0,⟨⟩⟩
 kernel_rfl
theorem Qf:AD (AU Try.f63) 0=[]:=by kernel_rfl
theorem K5:AP Try.prog 63 (AG 2 FV FU FT DS):=AI G9 Try.func63 (by kernel_rfl) (by kernel_rfl) rfl (fun v=>(Hc v).trans (Me v)) (AA Qf trivial)
def DZ:Env:=Gg.FP 63 1 81 (AG 2 FV FU FT DS)
theorem Dj:Ae Try.prog DZ:=Env.Bd G9 K5 (AH rfl rfl)
abbrev AH0:Hints:={ loop:=fun n=>match n with|0=>Ad 0 23 AKa AKZ Hw|_=>fun _ _ _=>none }
theorem AHw:∀ v,Hw v=roundOf Try.prog DZ AH0 1 0 23 (AB Try.f82 0) AKa AKZ v:=by
 rintro⟨a0,a1,a2,a3,a4,⟨⟩⟩
 kernel_rfl
theorem ASN:AD (AB Try.f82 0) 1=[]:=by kernel_rfl
theorem ASO:Ac Try.prog 0 (.loop (AB Try.f82 0)) (AH0.loop 0):=AW Dj (AHw) (AA ASN trivial)
theorem AQB:∀ v,Zy v=AO Try.prog DZ AH0 Try.f82 AHz AHy AHx v:=by
 rintro⟨a0,⟨⟩⟩
 kernel_rfl
theorem ATw:AD (AU Try.f82) 0=[(0,AB Try.f82 0)]:=by kernel_rfl
theorem AMW:AP Try.prog 82 (AG 1 AHz AHy AHx once):=AI Dj Try.func82 (by kernel_rfl) (by kernel_rfl) rfl (fun v=>(AKb v).trans (AQB v)) (AA ATw ⟨ASO,trivial⟩)
def AJ2:Env:=DZ.ext 82 true true (AG 1 AHz AHy AHx once)
theorem YK:Ae Try.prog AJ2:=Env.Ai Dj AMW (fun _=>AM rfl rfl) (fun _=>AH rfl rfl)
abbrev APA:Hints:={  }
theorem AGq:∀ v,LY v=AO Try.prog AJ2 APA Try.f75 R6 R5 R4 v:=by
 rintro⟨a0,⟨⟩⟩
 kernel_rfl
theorem AO9:AD (AU Try.f75) 0=[]:=by kernel_rfl
theorem AC0:AP Try.prog 75 (AG 1 R6 R5 R4 KX):=AI YK Try.func75 (by kernel_rfl) (by kernel_rfl) rfl (fun v=>(XL v).trans (AGq v)) (AA AO9 trivial)
def Vj:Env:=AJ2.ext 75 true true (AG 1 R6 R5 R4 KX)
theorem QI:Ae Try.prog Vj:=Env.Ai YK AC0 (fun _=>AM rfl rfl) (fun _=>AH rfl rfl)
abbrev AOS:Hints:={ fp:=fun n=>match n with|1=>[[],[],[],[],[],[],[],[0],[]]|_=>[] }
theorem AGI:∀ v,LR v=AO Try.prog Vj AOS Try.f70 Rc Rb Ra v:=by
 rintro⟨a0,a1,⟨⟩⟩
 kernel_rfl
theorem AOR:AD (AU Try.f70) 0=[]:=by kernel_rfl
theorem ACN:AP Try.prog 70 (AG 2 Rc Rb Ra NT):=AI QI Try.func70 (by kernel_rfl) (by kernel_rfl) rfl (fun v=>(W4 v).trans (AGI v)) (AA AOR trivial)
def Mu:Env:=Vj.ext 70 true true (AG 2 Rc Rb Ra NT)
theorem JV:Ae Try.prog Mu:=Env.Ai QI ACN (fun _=>AM rfl rfl) (fun _=>AH rfl rfl)
abbrev SZ:Hints:={ loop:=fun n=>match n with|0=>Ad 0 29 XU XT Dn|_=>fun _ _ _=>none }
theorem ZT:∀ v,Dn v=roundOf Try.prog Mu SZ 1 0 29 (AB Try.f69 0) XU XT v:=by
 rintro⟨a0,a1,a2,a3,a4,⟨⟩⟩
 kernel_rfl
theorem AL9:AD (AB Try.f69 0) 1=[]:=by kernel_rfl
theorem AMA:Ac Try.prog 0 (.loop (AB Try.f69 0)) (SZ.loop 0):=AW JV (ZT) (AA AL9 trivial)
theorem AHK:∀ v,Ld v=AO Try.prog Mu SZ Try.f69 SY SX SW v:=by
 rintro⟨a0,a1,⟨⟩⟩
 kernel_rfl
theorem APS:AD (AU Try.f69) 0=[(0,AB Try.f69 0)]:=by kernel_rfl
theorem ADC:AP Try.prog 69 (AG 2 SY SX SW ZU):=AI JV Try.func69 (by kernel_rfl) (by kernel_rfl) rfl (fun v=>(XV v).trans (AHK v)) (AA APS ⟨AMA,trivial⟩)
def Vm:Env:=Mu.ext 69 true true (AG 2 SY SX SW ZU)
theorem QK:Ae Try.prog Vm:=Env.Ai JV ADC (fun _=>AM rfl rfl) (fun _=>AH rfl rfl)
abbrev AR1:Hints:={  }
theorem AL0:∀ v,Q3 v=AO Try.prog Vm AR1 Try.f57 ZL ZK ZJ v:=by
 rintro⟨a0,a1,⟨⟩⟩
 kernel_rfl
theorem AR0:AD (AU Try.f57) 0=[]:=by kernel_rfl
theorem AGy:AP Try.prog 57 (AG 2 ZL ZK ZJ XN):=AI QK Try.func57 (by kernel_rfl) (by kernel_rfl) rfl (fun v=>(AC8 v).trans (AL0 v)) (AA AR0 trivial)
def AB0:Env:=Vm.ext 57 true true (AG 2 ZL ZK ZJ XN)
theorem Vl:Ae Try.prog AB0:=Env.Ai QK AGy (fun _=>AM rfl rfl) (fun _=>AH rfl rfl)
abbrev APC:Hints:={  }
theorem AGs:∀ v,LZ v=AO Try.prog AB0 APC Try.f72 R9 R8 R7 v:=by
 rintro⟨a0,⟨⟩⟩
 kernel_rfl
theorem APB:AD (AU Try.f72) 0=[]:=by kernel_rfl
theorem AC1:AP Try.prog 72 (AG 1 R9 R8 R7 SA):=AI Vl Try.func72 (by kernel_rfl) (by kernel_rfl) rfl (fun v=>(XM v).trans (AGs v)) (AA APB trivial)
def Vk:Env:=AB0.ext 72 true true (AG 1 R9 R8 R7 SA)
theorem QJ:Ae Try.prog Vk:=Env.Ai Vl AC1 (fun _=>AM rfl rfl) (fun _=>AH rfl rfl)
theorem ALd:Try.f67.body.isSome=true:=by kernel_rfl
theorem ALc : (Try.f67.name == "runtime.NumGoroutine") = false := by kernel_rfl
theorem ALb:loops (AU Try.f67)=0:=by kernel_rfl
def G7:Env:=Vk.ext 67 false false (FA Try.prog Vk {} Try.f67)
theorem Ge:Ae Try.prog G7:=Env.Ai QJ (Gs QJ Try.func67 ALd ALc ALb) (by simp) (by simp)
abbrev Eb:Hints:={ loop:=fun n=>match n with|0=>Ad 1 19 Gu Gt BT|_=>fun _ _ _=>none }
theorem JE:∀ v,BT v=roundOf Try.prog G7 Eb 1 1 19 (AB Try.f66 0) Gu Gt v:=by
 rintro⟨a0,a1,a2,a3,⟨⟩⟩
 kernel_rfl
theorem MJ:AD (AB Try.f66 0) 1=[]:=by kernel_rfl
theorem MK:Ac Try.prog 1 (.loop (AB Try.f66 0)) (Eb.loop 0):=AW Ge (JE) (AA MJ trivial)
theorem Kw:∀ v,DE v=AO Try.prog G7 Eb Try.f66 Ea EZ EY v:=by
 rintro⟨a0,a1,⟨⟩⟩
 kernel_rfl
theorem OT:AD (AU Try.f66) 0=[(0,AB Try.f66 0)]:=by kernel_rfl
theorem KC:AP Try.prog 66 (AG 2 Ea EZ EY D6):=AI Ge Try.func66 (by kernel_rfl) (by kernel_rfl) rfl (fun v=>(Gv v).trans (Kw v)) (AA OT ⟨MK,trivial⟩)
def Et:Env:=G7.FP 66 1 67 (AG 2 Ea EZ EY D6)
theorem FY:Ae Try.prog Et:=Env.Bd Ge KC (AH rfl rfl)
abbrev AOe:Hints:={  }
theorem AGP:∀ v,LW v=AO Try.prog Et AOe Try.f56 Ru Rs Rr v:=by
 rintro⟨a0,a1,⟨⟩⟩
 kernel_rfl
theorem AOd:AD (AU Try.f56) 0=[]:=by kernel_rfl
theorem ACS:AP Try.prog 56 (AG 2 Ru Rs Rr NW):=AI FY Try.func56 (by kernel_rfl) (by kernel_rfl) rfl (fun v=>(XE v).trans (AGP v)) (AA AOd trivial)
def Vh:Env:=Et.ext 56 true true (AG 2 Ru Rs Rr NW)
theorem QH:Ae Try.prog Vh:=Env.Ai FY ACS (fun _=>AM rfl rfl) (fun _=>AH rfl rfl)
theorem ATS:Try.f84.body.isSome=true:=by kernel_rfl
theorem ATR : (Try.f84.name == "runtime.NumGoroutine") = false := by kernel_rfl
theorem ATQ:loops (AU Try.f84)=0:=by kernel_rfl
def KB:Env:=Vh.ext 84 false false (FA Try.prog Vh {} Try.f84)
theorem IS:Ae Try.prog KB:=Env.Ai QH (Gs QH Try.func84 ATS ATR ATQ) (by simp) (by simp)
end
end Go.Pev
end
section
namespace Go.Pev
open Go.Proofs
noncomputable section
abbrev AI8:Hints:={ loop:=fun n=>match n with|0=>Ad 0 107 AK0 AKz Gz|_=>fun _ _ _=>none,fp:=fun n=>match n with|8=>[[],[],[],[],[],[],[],[],[1000003],[],[],[],[],[],[],[],[],[0],[0],[0],[],[0],[0],[0],[2,26],[],[2,26],[2,26],[],[],[],[],[]]|13=>[[],[0],[0],[0],[2],[],[],[],[0],[0],[0],[6],[],[0],[0],[0],[4],[],[],[]]|3=>[[],[],[],[],[],[],[],[],[11],[],[],[],[8,10,12],[]]|_=>[] }
theorem AI4:∀ v,Gz v=roundOf Try.prog KB AI8 1 0 107 (AB Try.f77 0) AK0 AKz v:=by
 rintro⟨a0,a1,a2,a3,a4,a5,a6,⟨⟩⟩
 kernel_rfl
theorem AS5:AD (AB Try.f77 0) 1=[]:=by kernel_rfl
theorem AS6:Ac Try.prog 0 (.loop (AB Try.f77 0)) (AI8.loop 0):=AW IS (AI4) (AA AS5 trivial)
theorem AQv:∀ v,AA8 v=AO Try.prog KB AI8 Try.f77 AI7 AI6 AI5 v:=by
 rintro⟨a0,a1,⟨⟩⟩
 kernel_rfl
theorem AUB:AD (AU Try.f77) 0=[(0,AB Try.f77 0)]:=by kernel_rfl
theorem ANe:AP Try.prog 77 (AG 2 AI7 AI6 AI5 AQx):=AI IS Try.func77 (by kernel_rfl) (by kernel_rfl) rfl (fun v=>(AK1 v).trans (AQv v)) (AA AUB ⟨AS6,trivial⟩)
def PF:Env:=KB.ext 77 true true (AG 2 AI7 AI6 AI5 AQx)
theorem Hk:Ae Try.prog PF:=Env.Ai IS ANe (fun _=>AM rfl rfl) (fun _=>AH rfl rfl)
abbrev F5:Hints:={ loop:=fun n=>match n with|0=>Ad 0 87 XC W9 C7|1=>Ad 0 87 XB W8 C6|2=>Ad 0 87 XA W7 Dl|_=>fun _ _ _=>none,fp:=fun n=>match n with|8=>[[],[],[],[],[],[],[],[],[],[],[],[],[],[],[],[],[],[],[],[],[],[],[],[],[0],[0],[],[],[],[]]|_=>[] }
theorem Yc:∀ v,Dl v=roundOf Try.prog PF F5 3 0 87 (AB Try.f62 2) XA W7 v:=by
 rintro⟨a0,a1,a2,⟨⟩⟩
 kernel_rfl
theorem ALV:AD (AB Try.f62 2) 3=[]:=by kernel_rfl
theorem ALY:Ac Try.prog 0 (.loop (AB Try.f62 2)) (F5.loop 2):=AW Hk (Yc) (AA ALV trivial)
theorem Yd:∀ v,C6 v=roundOf Try.prog PF F5 2 0 87 (AB Try.f62 1) XB W8 v:=by
 rintro⟨a0,a1,a2,a3,a4,a5,a6,a7,a8,a9,a10,a11,a12,a13,a14,a15,a16,a17,a18,a19,a20,a21,a22,a23,a24,a25,⟨⟩⟩
 kernel_rfl
theorem ALW:AD (AB Try.f62 1) 2=[]:=by kernel_rfl
theorem ALZ:Ac Try.prog 0 (.loop (AB Try.f62 1)) (F5.loop 1):=AW Hk (Yd) (AA ALW trivial)
theorem Ye:∀ v,C7 v=roundOf Try.prog PF F5 1 0 87 (AB Try.f62 0) XC W9 v:=by
 rintro⟨a0,a1,a2,a3,a4,a5,a6,⟨⟩⟩
 kernel_rfl
theorem ALX:AD (AB Try.f62 0) 1=[(1,AB Try.f62 1)]:=by kernel_rfl
theorem ALa:Ac Try.prog 0 (.loop (AB Try.f62 0)) (F5.loop 0):=AW Hk (Ye) (AA ALX ⟨ALZ,trivial⟩)
theorem AGO:∀ v,LV v=AO Try.prog PF F5 Try.f62 Rp Ro Rn v:=by
 rintro⟨a0,⟨⟩⟩
 kernel_rfl
theorem AOc:AD (AU Try.f62) 0=[(0,AB Try.f62 0),(2,AB Try.f62 2)]:=by kernel_rfl
theorem ACR:AP Try.prog 62 (AG 1 Rp Ro Rn NV):=AI Hk Try.func62 (by kernel_rfl) (by kernel_rfl) rfl (fun v=>(XD v).trans (AGO v)) (AA AOc ⟨ALa,ALY,trivial⟩)
def Vg:Env:=PF.ext 62 true true (AG 1 Rp Ro Rn NV)
theorem QG:Ae Try.prog Vg:=Env.Ai Hk ACR (fun _=>AM rfl rfl) (fun _=>AH rfl rfl)
abbrev ATN:Hints:={  }
theorem AOG:∀ v,RO v=AO Try.prog Vg ATN Try.f55 ABn ABm ABl v:=by
 rintro⟨a0,a1,a2,⟨⟩⟩
 kernel_rfl
theorem ATM:AD (AU Try.f55) 0=[]:=by kernel_rfl
theorem AJu:AP Try.prog 55 (AG 3 ABn ABm ABl asked):=AI QG Try.func55 (by kernel_rfl) (by kernel_rfl) rfl (fun v=>(AF1 v).trans (AOG v)) (AA ATM trivial)
def AB7:Env:=Vg.ext 55 true true (AG 3 ABn ABm ABl asked)
theorem Vz:Ae Try.prog AB7:=Env.Ai QG AJu (fun _=>AM rfl rfl) (fun _=>AH rfl rfl)
abbrev AT0:Hints:={  }
theorem AQG:∀ v,Ny v=AO Try.prog AB7 AT0 Try.f47 AH7 AH6 AH5 v:=by
 rintro⟨a0,⟨⟩⟩
 kernel_rfl
theorem ATz:AD (AU Try.f47) 0=[]:=by kernel_rfl
theorem AMb:AP Try.prog 47 (AG 1 AH7 AH6 AH5 AH8):=AI Vz Try.func47 (by kernel_rfl) (by kernel_rfl) rfl (fun v=>(Q9 v).trans (AQG v)) (AA ATz trivial)
def AJ3:Env:=AB7.ext 47 true true (AG 1 AH7 AH6 AH5 AH8)
theorem YL:Ae Try.prog AJ3:=Env.Ai Vz AMb (fun _=>AM rfl rfl) (fun _=>AH rfl rfl)
abbrev AJZ:Hints:={  }
theorem ABQ:∀ v,GX v=AO Try.prog AJ3 AJZ Try.f34 K8 K7 K6 v:=by
 rintro⟨a0,a1,⟨⟩⟩
 kernel_rfl
theorem AJY:AD (AU Try.f34) 0=[]:=by kernel_rfl
theorem Wt:AP Try.prog 34 (AG 2 K8 K7 K6 GY):=AI YL Try.func34 (by kernel_rfl) (by kernel_rfl) rfl (fun v=>(JO v).trans (ABQ v)) (AA AJY trivial)
def LN:Env:=AJ3.ext 34 true true (AG 2 K8 K7 K6 GY)
theorem KP:Ae Try.prog LN:=Env.Ai YL Wt (fun _=>AM rfl rfl) (fun _=>AH rfl rfl)
abbrev ARg:Hints:={ fp:=fun n=>match n with|1=>[[],[],[],[],[],[],[],[]]|_=>[] }
theorem ALR:∀ v,Qr v=AO Try.prog LN ARg Try.f74 YV YU YT v:=by
 rintro⟨a0,a1,⟨⟩⟩
 kernel_rfl
theorem ARf:AD (AU Try.f74) 0=[]:=by kernel_rfl
theorem AGE:AP Try.prog 74 (AG 2 YV YU YT A8):=AI KP Try.func74 (by kernel_rfl) (by kernel_rfl) rfl (fun v=>(ACB v).trans (ALR v)) (AA ARf trivial)
def ABx:Env:=LN.ext 74 true true (AG 2 YV YU YT A8)
theorem Vd:Ae Try.prog ABx:=Env.Ai KP AGE (fun _=>AM rfl rfl) (fun _=>AH rfl rfl)
abbrev ASi:Hints:={  }
theorem AM8:∀ v,RH v=AO Try.prog ABx ASi Try.f32 AAg AAf AAe v:=by
 rintro⟨a0,⟨⟩⟩
 kernel_rfl
theorem ASh:AD (AU Try.f32) 0=[]:=by kernel_rfl
theorem AIc:AP Try.prog 32 (AG 1 AAg AAf AAe AEm):=AI Vd Try.func32 (by kernel_rfl) (by kernel_rfl) rfl (fun v=>(AEl v).trans (AM8 v)) (AA ASh trivial)
def AB3:Env:=ABx.ext 32 true true (AG 1 AAg AAf AAe AEm)
theorem Vr:Ae Try.prog AB3:=Env.Ai Vd AIc (fun _=>AM rfl rfl) (fun _=>AH rfl rfl)
abbrev AOD:Hints:={  }
theorem AF0:∀ v,J6 v=AO Try.prog AB3 AOD Try.f24 Ov Ou Ot v:=by
 rintro⟨a0,⟨⟩⟩
 kernel_rfl
theorem AOC:AD (AU Try.f24) 0=[]:=by kernel_rfl
theorem ABj:AP Try.prog 24 (AG 1 Ov Ou Ot bitsLen):=AI Vr Try.func24 (by kernel_rfl) (by kernel_rfl) rfl (fun v=>(VY v).trans (AF0 v)) (AA AOC trivial)
def PI:Env:=AB3.ext 24 true true (AG 1 Ov Ou Ot bitsLen)
theorem NK:Ae Try.prog PI:=Env.Ai Vr ABj (fun _=>AM rfl rfl) (fun _=>AH rfl rfl)
abbrev ALQ:Hints:={ fp:=fun n=>match n with|3=>[[],[0],[0],[],[0],[0],[],[],[0],[1]]|2=>[[],[0],[0],[],[0],[0],[],[],[0],[1]]|1=>[[],[0],[0],[],[0],[0],[],[],[0],[1]]|_=>[] }
theorem AB9:∀ v,Jc v=AO Try.prog PI ALQ Try.f50 NR NQ NP v:=by
 rintro⟨a0,⟨⟩⟩
 kernel_rfl
theorem ALP:AD (AU Try.f50) 0=[]:=by kernel_rfl
theorem YS:AP Try.prog 50 (AG 1 NR NQ NP xorNext):=AI NK Try.func50 (by kernel_rfl) (by kernel_rfl) rfl (fun v=>(RX v).trans (AB9 v)) (AA ALP trivial)
def O3:Env:=PI.ext 50 false true (AG 1 NR NQ NP xorNext)
theorem Mt:Ae Try.prog O3:=Env.Ai NK YS ((by simp)) (fun _=>AH rfl rfl)
abbrev AMZ:Hints:={  }
theorem AER:∀ v,Jn v=AO Try.prog O3 AMZ Try.f49 Nx Nw Nv v:=by
 rintro⟨a0,⟨⟩⟩
 kernel_rfl
theorem AMY:AD (AU Try.f49) 0=[]:=by kernel_rfl
theorem Z3:AP Try.prog 49 (AG 1 Nx Nw Nv Jo):=AI Mt Try.func49 (by kernel_rfl) (by kernel_rfl) rfl (fun v=>(TL v).trans (AER v)) (AA AMY trivial)
def Hi:Env:=O3.ext 49 true true (AG 1 Nx Nw Nv Jo)
theorem Fk:Ae Try.prog Hi:=Env.Ai Mt Z3 (fun _=>AM rfl rfl) (fun _=>AH rfl rfl)
abbrev T4:Hints:={ loop:=fun n=>match n with|0=>Ad 1 53 AKq AKo AKm|1=>Ad 1 53 AKp AKn AKl|_=>fun _ _ _=>none,fp:=fun n=>match n with|4=>[[],[],[],[],[],[],[],[0],[0],[],[],[],[0],[0],[],[],[]]|6=>[[],[],[],[],[],[],[],[],[0],[0],[],[],[0],[0],[0],[1],[0],[1]]|_=>[] }
theorem AIo:∀ v,AKl v=roundOf Try.prog Hi T4 2 1 53 (AB Try.f85 1) AKp AKn v:=by
 rintro⟨a0,a1,a2,a3,a4,⟨⟩⟩
 kernel_rfl
theorem ASk:AD (AB Try.f85 1) 2=[]:=by kernel_rfl
theorem ASm:Ac Try.prog 1 (.loop (AB Try.f85 1)) (T4.loop 1):=AW Fk (AIo) (AA ASk trivial)
theorem AIp:∀ v,AKm v=roundOf Try.prog Hi T4 1 1 53 (AB Try.f85 0) AKq AKo v:=by
 rintro⟨a0,a1,a2,a3,⟨⟩⟩
 kernel_rfl
theorem ASl:AD (AB Try.f85 0) 1=[(1,AB Try.f85 1)]:=by kernel_rfl
theorem ASn:Ac Try.prog 1 (.loop (AB Try.f85 0)) (T4.loop 0):=AW Fk (AIp) (AA ASl ⟨ASm,trivial⟩)
theorem AQZ:∀ v,AQa v=AO Try.prog Hi T4 Try.f85 AIs AIr AIq v:=by
 rintro⟨a0,a1,a2,⟨⟩⟩
 kernel_rfl
theorem AT4:AD (AU Try.f85) 0=[(0,AB Try.f85 0)]:=by kernel_rfl
theorem ANG:AP Try.prog 85 (AG 4 AIs AIr AIq AT5):=AI Fk Try.func85 (by kernel_rfl) (by kernel_rfl) rfl (fun v=>(ASo v).trans (AQZ v)) (AA AT4 ⟨ASn,trivial⟩)
def AB4:Env:=Hi.FP 85 3 74 (AG 4 AIs AIr AIq AT5)
theorem PD:Ae Try.prog AB4:=Env.Bd Fk ANG (AH rfl rfl)
abbrev Y6:Hints:={ loop:=fun n=>match n with|0=>Ad 1 82 ACn ACm ACl|_=>fun _ _ _=>none,fp:=fun n=>match n with|6=>[[],[],[],[],[],[],[],[],[],[],[],[],[0],[0],[],[],[],[],[0],[0],[0],[1],[0],[1]]|5=>[[],[],[],[],[],[0],[0],[],[],[],[],[0],[0],[],[],[]]|3=>[[],[],[],[],[],[],[],[],[],[],[0],[0],[],[],[],[],[],[0],[0],[],[],[]]|_=>[] }
theorem ACk:∀ v,ACl v=roundOf Try.prog AB4 Y6 1 1 82 (AB Try.f93 0) ACn ACm v:=by
 rintro⟨a0,a1,a2,a3,⟨⟩⟩
 kernel_rfl
theorem AO0:AD (AB Try.f93 0) 1=[]:=by kernel_rfl
theorem AO1:Ac Try.prog 1 (.loop (AB Try.f93 0)) (Y6.loop 0):=AW PD (ACk) (AA AO0 trivial)
theorem ALr:∀ v,AKG v=AO Try.prog AB4 Y6 Try.f93 Y5 Y4 Y3 v:=by
 rintro⟨a0,a1,a2,a3,⟨⟩⟩
 kernel_rfl
theorem ARv:AD (AU Try.f93) 0=[(0,AB Try.f93 0)]:=by kernel_rfl
theorem AGi:AP Try.prog 93 (AG 5 Y5 Y4 Y3 AO3):=AI PD Try.func93 (by kernel_rfl) (by kernel_rfl) rfl (fun v=>(AO2 v).trans (ALr v)) (AA ARv ⟨AO1,trivial⟩)
def My:Env:=AB4.FP 93 4 74 (AG 5 Y5 Y4 Y3 AO3)
theorem IK:Ae Try.prog My:=Env.Bd PD AGi (AH rfl rfl)
end
end Go.Pev
end
section
namespace Go.Pev
open Go.Proofs
noncomputable section
abbrev MO:Hints:={ loop:=fun n=>match n with|0=>Ad 1 60 AE5 AE3 AE1|1=>Ad 1 60 AE4 AE2 AEz|_=>fun _ _ _=>none,fp:=fun n=>match n with|10=>[[],[],[],[],[],[],[],[],[],[],[0],[0],[],[],[0],[0],[0],[1],[0],[1]]|_=>[] }
theorem AEy:∀ v,AEz v=roundOf Try.prog My MO 2 1 60 (AB Try.f86 1) AE4 AE2 v:=by
 rintro⟨a0,a1,a2,a3,⟨⟩⟩
 kernel_rfl
theorem AQi:AD (AB Try.f86 1) 2=[]:=by kernel_rfl
theorem AQk:Ac Try.prog 1 (.loop (AB Try.f86 1)) (MO.loop 1):=AW IK (AEy) (AA AQi trivial)
theorem AE0:∀ v,AE1 v=roundOf Try.prog My MO 1 1 60 (AB Try.f86 0) AE5 AE3 v:=by
 rintro⟨a0,a1,a2,a3,a4,⟨⟩⟩
 kernel_rfl
theorem AQj:AD (AB Try.f86 0) 1=[]:=by kernel_rfl
theorem AQl:Ac Try.prog 1 (.loop (AB Try.f86 0)) (MO.loop 0):=AW IK (AE0) (AA AQj trivial)
theorem ANP:∀ v,AKw v=AO Try.prog My MO Try.f86 AAx AAw AAv v:=by
 rintro⟨a0,a1,a2,⟨⟩⟩
 kernel_rfl
theorem AS0:AD (AU Try.f86) 0=[(0,AB Try.f86 0),(1,AB Try.f86 1)]:=by kernel_rfl
theorem AI0:AP Try.prog 86 (AG 4 AAx AAw AAv AQn):=AI IK Try.func86 (by kernel_rfl) (by kernel_rfl) rfl (fun v=>(AQm v).trans (ANP v)) (AA AS0 ⟨AQl,AQk,trivial⟩)
def RV:Env:=My.FP 86 3 74 (AG 4 AAx AAw AAv AQn)
theorem LK:Ae Try.prog RV:=Env.Bd IK AI0 (AH rfl rfl)
abbrev VS:Hints:={ loop:=fun n=>match n with|0=>Ad 1 67 X7 X6 X5|_=>fun _ _ _=>none,fp:=fun n=>match n with|10=>[[],[],[],[],[],[],[],[],[],[],[0],[0],[],[],[0],[0],[0],[1],[0],[1]]|_=>[] }
theorem ABg:∀ v,X5 v=roundOf Try.prog RV VS 1 1 67 (AB Try.f87 0) X7 X6 v:=by
 rintro⟨a0,a1,a2,a3,a4,a5,⟨⟩⟩
 kernel_rfl
theorem AN6:AD (AB Try.f87 0) 1=[]:=by kernel_rfl
theorem AN7:Ac Try.prog 1 (.loop (AB Try.f87 0)) (VS.loop 0):=AW LK (ABg) (AA AN6 trivial)
theorem AJj:∀ v,AFw v=AO Try.prog RV VS Try.f87 VR VQ VP v:=by
 rintro⟨a0,a1,a2,⟨⟩⟩
 kernel_rfl
theorem ARR:AD (AU Try.f87) 0=[(0,AB Try.f87 0)]:=by kernel_rfl
theorem AFv:AP Try.prog 87 (AG 4 VR VQ VP AJk):=AI LK Try.func87 (by kernel_rfl) (by kernel_rfl) rfl (fun v=>(AN8 v).trans (AJj v)) (AA ARR ⟨AN7,trivial⟩)
def Vx:Env:=RV.FP 87 3 74 (AG 4 VR VQ VP AJk)
theorem QR:Ae Try.prog Vx:=Env.Bd LK AFv (AH rfl rfl)
abbrev AMR:Hints:={ fp:=fun n=>match n with|1=>[[],[],[],[0],[0],[],[],[0],[0],[],[]]|_=>[] }
theorem AEO:∀ v,Xb v=AO Try.prog Vx AMR Try.f96 Nr Nq Np v:=by
 rintro⟨a0,a1,a2,a3,⟨⟩⟩
 kernel_rfl
theorem AMQ:AD (AU Try.f96) 0=[]:=by kernel_rfl
theorem Zv:AP Try.prog 96 (AG 5 Nr Nq Np Zw):=AI QR Try.func96 (by kernel_rfl) (by kernel_rfl) rfl (fun v=>(AHu v).trans (AEO v)) (AA AMQ trivial)
def O5:Env:=Vx.FP 96 4 74 (AG 5 Nr Nq Np Zw)
theorem M4:Ae Try.prog O5:=Env.Bd QR Zv (AH rfl rfl)
abbrev AMh:Hints:={  }
theorem AEU:∀ v,Xe v=AO Try.prog O5 AMh Try.f95 N2 N1 N0 v:=by
 rintro⟨a0,a1,a2,a3,a4,⟨⟩⟩
 kernel_rfl
theorem AMg:AD (AU Try.f95) 0=[]:=by kernel_rfl
theorem Z6:AP Try.prog 95 (AG 6 N2 N1 N0 Z7):=AI M4 Try.func95 (by kernel_rfl) (by kernel_rfl) rfl (fun v=>(AIH v).trans (AEU v)) (AA AMg trivial)
def O7:Env:=O5.FP 95 5 74 (AG 6 N2 N1 N0 Z7)
theorem M6:Ae Try.prog O7:=Env.Bd M4 Z6 (AH rfl rfl)
abbrev AMl:Hints:={  }
theorem AEW:∀ v,Xf v=AO Try.prog O7 AMl Try.f94 N8 N7 N6 v:=by
 rintro⟨a0,a1,a2,⟨⟩⟩
 kernel_rfl
theorem AMk:AD (AU Try.f94) 0=[]:=by kernel_rfl
theorem Z9:AP Try.prog 94 (AG 4 N8 N7 N6 AAA):=AI M6 Try.func94 (by kernel_rfl) (by kernel_rfl) rfl (fun v=>(AIJ v).trans (AEW v)) (AA AMk trivial)
def O9:Env:=O7.FP 94 3 74 (AG 4 N8 N7 N6 AAA)
theorem M8:Ae Try.prog O9:=Env.Bd M6 Z9 (AH rfl rfl)
abbrev APU:Hints:={  }
theorem AHN:∀ v,ADE v=AO Try.prog O9 APU Try.f88 Sc Sb Sa v:=by
 rintro⟨a0,a1,a2,⟨⟩⟩
 kernel_rfl
theorem APT:AD (AU Try.f88) 0=[]:=by kernel_rfl
theorem ADD:AP Try.prog 88 (AG 4 Sc Sb Sa AHO):=AI M8 Try.func88 (by kernel_rfl) (by kernel_rfl) rfl (fun v=>(AMB v).trans (AHN v)) (AA APT trivial)
def M1:Env:=O9.FP 88 3 74 (AG 4 Sc Sb Sa AHO)
theorem JX:Ae Try.prog M1:=Env.Bd M8 ADD (AH rfl rfl)
abbrev AG3:Hints:={ loop:=fun n=>match n with|0=>Ad 1 34 AKK AKJ AKI|_=>fun _ _ _=>none,fp:=fun n=>match n with|3=>[[],[],[],[],[],[],[0],[0],[],[],[0],[0],[0],[1],[0],[1]]|_=>[] }
theorem AGz:∀ v,AKI v=roundOf Try.prog M1 AG3 1 1 34 (AB Try.f89 0) AKK AKJ v:=by
 rintro⟨a0,a1,a2,⟨⟩⟩
 kernel_rfl
theorem AR2:AD (AB Try.f89 0) 1=[]:=by kernel_rfl
theorem AR3:Ac Try.prog 1 (.loop (AB Try.f89 0)) (AG3.loop 0):=AW JX (AGz) (AA AR2 trivial)
theorem APD:∀ v,APE v=AO Try.prog M1 AG3 Try.f89 AG2 AG1 AG0 v:=by
 rintro⟨a0,a1,a2,⟨⟩⟩
 kernel_rfl
theorem ATn:AD (AU Try.f89) 0=[(0,AB Try.f89 0)]:=by kernel_rfl
theorem AL1:AP Try.prog 89 (AG 4 AG2 AG1 AG0 ATo):=AI JX Try.func89 (by kernel_rfl) (by kernel_rfl) rfl (fun v=>(AR4 v).trans (APD v)) (AA ATn ⟨AR3,trivial⟩)
def LG:Env:=M1.FP 89 3 74 (AG 4 AG2 AG1 AG0 ATo)
theorem Fv:Ae Try.prog LG:=Env.Bd JX AL1 (AH rfl rfl)
abbrev CT:Hints:={ loop:=fun n=>match n with|0=>Ad 1 141 Pd PZ PV|1=>Ad 1 141 Pc PY PU|2=>Ad 1 141 Pb PX PT|3=>Ad 1 141 Pa PW PS|_=>fun _ _ _=>none,fp:=fun n=>match n with|11=>[[],[],[],[],[],[],[],[],[0],[0],[],[],[0],[0],[0],[1],[0],[1]]|5=>[[],[],[],[],[],[],[],[0],[0],[],[],[],[0],[0],[],[],[],[]]|17=>[[],[],[],[],[],[],[],[],[0],[0],[],[],[0],[0],[0],[1],[0],[1]]|16=>[[],[],[],[0],[0],[],[],[],[0],[0],[],[],[]]|23=>[[],[],[],[],[],[],[],[],[0],[0],[],[],[0],[0],[0],[1],[0],[1]]|22=>[[],[],[],[0],[0],[],[],[],[0],[0],[],[],[]]|_=>[] }
theorem Sn:∀ v,PS v=roundOf Try.prog LG CT 4 1 141 (AB Try.f90 3) Pa PW v:=by
 rintro⟨a0,a1,a2,a3,a4,a5,⟨⟩⟩
 kernel_rfl
theorem ADd:AD (AB Try.f90 3) 4=[]:=by kernel_rfl
theorem ADh:Ac Try.prog 1 (.loop (AB Try.f90 3)) (CT.loop 3):=AW Fv (Sn) (AA ADd trivial)
theorem So:∀ v,PT v=roundOf Try.prog LG CT 3 1 141 (AB Try.f90 2) Pb PX v:=by
 rintro⟨a0,a1,a2,a3,a4,a5,⟨⟩⟩
 kernel_rfl
theorem ADe:AD (AB Try.f90 2) 3=[]:=by kernel_rfl
theorem ADi:Ac Try.prog 1 (.loop (AB Try.f90 2)) (CT.loop 2):=AW Fv (So) (AA ADe trivial)
theorem Sp:∀ v,PU v=roundOf Try.prog LG CT 2 1 141 (AB Try.f90 1) Pc PY v:=by
 rintro⟨a0,a1,a2,a3,a4,⟨⟩⟩
 kernel_rfl
theorem ADf:AD (AB Try.f90 1) 2=[]:=by kernel_rfl
theorem ADj:Ac Try.prog 1 (.loop (AB Try.f90 1)) (CT.loop 1):=AW Fv (Sp) (AA ADf trivial)
theorem Sq:∀ v,PV v=roundOf Try.prog LG CT 1 1 141 (AB Try.f90 0) Pd PZ v:=by
 rintro⟨a0,a1,a2,a3,a4,⟨⟩⟩
 kernel_rfl
theorem ADg:AD (AB Try.f90 0) 1=[(1,AB Try.f90 1),(2,AB Try.f90 2),(3,AB Try.f90 3)]:=by kernel_rfl
theorem ADk:Ac Try.prog 1 (.loop (AB Try.f90 0)) (CT.loop 0):=AW Fv (Sq) (AA ADg ⟨ADj,ADi,ADh,trivial⟩)
theorem Zj:∀ v,Sr v=AO Try.prog LG CT Try.f90 Kd Kc Kb v:=by
 rintro⟨a0,a1,a2,⟨⟩⟩
 kernel_rfl
theorem AHa:AD (AU Try.f90) 0=[(0,AB Try.f90 0)]:=by kernel_rfl
theorem WI:AP Try.prog 90 (AG 4 Kd Kc Kb Ss):=AI Fv Try.func90 (by kernel_rfl) (by kernel_rfl) rfl (fun v=>(ADl v).trans (Zj v)) (AA AHa ⟨ADk,trivial⟩)
def Er:Env:=LG.FP 90 3 74 (AG 4 Kd Kc Kb Ss)
theorem DV:Ae Try.prog Er:=Env.Bd Fv WI (AH rfl rfl)
abbrev ER:Hints:={ loop:=fun n=>match n with|0=>Ad 1 90 S7 S4 S1|1=>Ad 1 90 S6 S3 S0|2=>Ad 1 90 S5 S2 Sy|_=>fun _ _ _=>none,fp:=fun n=>match n with|8=>[[],[],[],[],[],[],[0],[0],[],[],[0],[0],[0],[1],[0],[1]]|3=>[[],[],[],[],[],[],[],[0],[0],[],[],[0],[0],[],[],[],[]]|5=>[[],[],[],[],[],[],[],[0],[0],[],[],[0],[0],[],[],[]]|1=>[[],[],[],[],[],[],[0],[0],[],[],[0],[0],[0],[1],[0],[1]]|_=>[] }
theorem WR:∀ v,Sy v=roundOf Try.prog Er ER 3 1 90 (AB Try.f91 2) S5 S2 v:=by
 rintro⟨a0,a1,a2,a3,⟨⟩⟩
 kernel_rfl
theorem AHf:AD (AB Try.f91 2) 3=[]:=by kernel_rfl
theorem AHi:Ac Try.prog 1 (.loop (AB Try.f91 2)) (ER.loop 2):=AW DV (WR) (AA AHf trivial)
theorem WS:∀ v,S0 v=roundOf Try.prog Er ER 2 1 90 (AB Try.f91 1) S6 S3 v:=by
 rintro⟨a0,a1,a2,a3,⟨⟩⟩
 kernel_rfl
theorem AHg:AD (AB Try.f91 1) 2=[]:=by kernel_rfl
theorem AHj:Ac Try.prog 1 (.loop (AB Try.f91 1)) (ER.loop 1):=AW DV (WS) (AA AHg trivial)
theorem WT:∀ v,S1 v=roundOf Try.prog Er ER 1 1 90 (AB Try.f91 0) S7 S4 v:=by
 rintro⟨a0,a1,a2,a3,⟨⟩⟩
 kernel_rfl
theorem AHh:AD (AB Try.f91 0) 1=[(1,AB Try.f91 1),(2,AB Try.f91 2)]:=by kernel_rfl
theorem AHk:Ac Try.prog 1 (.loop (AB Try.f91 0)) (ER.loop 0):=AW DV (WT) (AA AHh ⟨AHj,AHi,trivial⟩)
theorem AEJ:∀ v,XY v=AO Try.prog Er ER Try.f91 Nl Nk Nj v:=by
 rintro⟨a0,a1,a2,a3,⟨⟩⟩
 kernel_rfl
theorem AMM:AD (AU Try.f91) 0=[(0,AB Try.f91 0)]:=by kernel_rfl
theorem Zq:AP Try.prog 91 (AG 5 Nl Nk Nj Zr):=AI DV Try.func91 (by kernel_rfl) (by kernel_rfl) rfl (fun v=>(AHl v).trans (AEJ v)) (AA AMM ⟨AHk,trivial⟩)
def Dt:Env:=Er.FP 91 4 74 (AG 5 Nl Nk Nj Zr)
theorem Cc:Ae Try.prog Dt:=Env.Bd DV Zq (AH rfl rfl)
abbrev D1:Hints:={ loop:=fun n=>match n with|0=>Ad 1 178 ADc ADX ADS|1=>Ad 1 178 ADb ADW ADQ|2=>Ad 1 178 ADa ADV ADO|3=>Ad 1 178 ADZ ADU ADM|4=>Ad 1 178 ADY ADT ADK|_=>fun _ _ _=>none,fp:=fun n=>match n with|3=>[[],[],[],[],[],[],[],[0],[0],[],[],[0],[0],[],[],[]]|5=>[[],[],[],[],[],[],[],[0],[0],[],[],[0],[0],[],[],[],[]]|18=>[[],[],[],[],[],[],[0],[0],[],[],[0],[0],[0],[1],[0],[1]]|13=>[[],[],[],[],[],[],[],[0],[0],[],[],[0],[0],[],[],[]]|15=>[[],[],[],[],[],[],[],[0],[0],[],[],[0],[0],[],[],[],[]]|21=>[[],[],[],[],[],[],[0],[0],[],[],[0],[0],[0],[1],[0],[1]]|10=>[[],[],[],[],[],[],[0],[0],[],[],[0],[0],[0],[1],[0],[1]]|8=>[[],[],[],[],[],[],[0],[0],[],[],[0],[0],[0],[1],[0],[1]]|1=>[[],[],[],[],[],[],[0],[0],[],[],[0],[0],[0],[1],[0],[1]]|_=>[] }
theorem ADJ:∀ v,ADK v=roundOf Try.prog Dt D1 5 1 178 (AB Try.f92 4) ADY ADT v:=by
 rintro⟨a0,a1,a2,a3,⟨⟩⟩
 kernel_rfl
theorem APc:AD (AB Try.f92 4) 5=[]:=by kernel_rfl
theorem APh:Ac Try.prog 1 (.loop (AB Try.f92 4)) (D1.loop 4):=AW Cc (ADJ) (AA APc trivial)
theorem ADL:∀ v,ADM v=roundOf Try.prog Dt D1 4 1 178 (AB Try.f92 3) ADZ ADU v:=by
 rintro⟨a0,a1,a2,a3,⟨⟩⟩
 kernel_rfl
theorem APd:AD (AB Try.f92 3) 4=[]:=by kernel_rfl
theorem APi:Ac Try.prog 1 (.loop (AB Try.f92 3)) (D1.loop 3):=AW Cc (ADL) (AA APd trivial)
theorem ADN:∀ v,ADO v=roundOf Try.prog Dt D1 3 1 178 (AB Try.f92 2) ADa ADV v:=by
 rintro⟨a0,a1,a2,a3,⟨⟩⟩
 kernel_rfl
theorem APe:AD (AB Try.f92 2) 3=[(3,AB Try.f92 3),(4,AB Try.f92 4)]:=by kernel_rfl
theorem APj:Ac Try.prog 1 (.loop (AB Try.f92 2)) (D1.loop 2):=AW Cc (ADN) (AA APe ⟨APi,APh,trivial⟩)
theorem ADP:∀ v,ADQ v=roundOf Try.prog Dt D1 2 1 178 (AB Try.f92 1) ADb ADW v:=by
 rintro⟨a0,a1,a2,a3,⟨⟩⟩
 kernel_rfl
theorem APf:AD (AB Try.f92 1) 2=[]:=by kernel_rfl
theorem APk:Ac Try.prog 1 (.loop (AB Try.f92 1)) (D1.loop 1):=AW Cc (ADP) (AA APf trivial)
theorem ADR:∀ v,ADS v=roundOf Try.prog Dt D1 1 1 178 (AB Try.f92 0) ADc ADX v:=by
 rintro⟨a0,a1,a2,a3,⟨⟩⟩
 kernel_rfl
theorem APg:AD (AB Try.f92 0) 1=[]:=by kernel_rfl
theorem APl:Ac Try.prog 1 (.loop (AB Try.f92 0)) (D1.loop 0):=AW Cc (ADR) (AA APg trivial)
theorem AMI:∀ v,AKV v=AO Try.prog Dt D1 Try.f92 Zi Zh Zg v:=by
 rintro⟨a0,a1,a2,a3,⟨⟩⟩
 kernel_rfl
theorem ASJ:AD (AU Try.f92) 0=[(0,AB Try.f92 0),(1,AB Try.f92 1),(2,AB Try.f92 2)]:=by kernel_rfl
theorem AHZ:AP Try.prog 92 (AG 5 Zi Zh Zg APn):=AI Cc Try.func92 (by kernel_rfl) (by kernel_rfl) rfl (fun v=>(APm v).trans (AMI v)) (AA ASJ ⟨APl,APk,APj,trivial⟩)
def AB1:Env:=Dt.FP 92 4 74 (AG 5 Zi Zh Zg APn)
theorem Vn:Ae Try.prog AB1:=Env.Bd Cc AHZ (AH rfl rfl)
abbrev AHU(self:(List (List Int)×Int×Int×Int×Unit)→Option ((List (List Int)×Unit))):Hints:={ loop:=fun n=>match n with|0=>Ad 1 148 AKR AKQ (AKP self)|_=>fun _ _ _=>none,fp:=fun n=>match n with|17=>[[],[],[],[],[],[],[],[0],[0],[],[],[0],[0],[],[],[],[]]|_=>[] }
abbrev ZY(self:(List (List Int)×Int×Int×Int×Unit)→Option ((List (List Int)×Unit))):Env:=AB1.ext 80 false true (AG 5 Si Sh Sg self)
theorem AHT(self:(List (List Int)×Int×Int×Int×Unit)→Option ((List (List Int)×Unit))):∀ v,AKP self v=roundOf Try.prog (ZY self) (AHU self) 1 1 148 (AB Try.f80 0) AKR AKQ v:=by
 rintro⟨a0,a1,a2,a3,a4,a5,⟨⟩⟩
 kernel_rfl
theorem ASB:AD (AB Try.f80 0) 1=[]:=by kernel_rfl
theorem ASC(self:(List (List Int)×Int×Int×Int×Unit)→Option ((List (List Int)×Unit)))(hE:Ae Try.prog (ZY self)):Ac Try.prog 1 (.loop (AB Try.f80 0)) ((AHU self).loop 0):=AW hE (AHT self) (AA ASB trivial)
theorem APY(self:(List (List Int)×Int×Int×Int×Unit)→Option ((List (List Int)×Unit))):∀ v,ATs self v=AO Try.prog (ZY self) (AHU self) Try.f80 Si Sh Sg v:=by
 rintro⟨a0,a1,a2,a3,⟨⟩⟩
 kernel_rfl
theorem ATr:AD (AU Try.f80) 0=[(0,AB Try.f80 0)]:=by kernel_rfl
theorem AHV:∀ n,AP Try.prog 80 (AG 5 Si Sh Sg (Sj n)):=by
 intro n
 induction n with
 |zero=>exact Ps fun _=>rfl
 |succ n ih=>
  have hE:Ae Try.prog (ZY (Sj n)):=Env.Ai Vn ih ((by simp)) (fun _=>AH rfl rfl)
  let self:=Sj n
  exact AI hE Try.func80 (by kernel_rfl) (by kernel_rfl) rfl (APY self) (AA ATr ⟨(ASC self hE),trivial⟩)
theorem AMF:AP Try.prog 80 (AG 5 Si Sh Sg ASE):=by
 have e:ASE=Sj 100:=funext ASD
 rw[e]
 exact AHV _
def AJ0:Env:=AB1.FP 80 4 74 (AG 5 Si Sh Sg ASE)
theorem YI:Ae Try.prog AJ0:=Env.Bd Vn AMF (AH rfl rfl)
abbrev ARs:Hints:={  }
theorem ALn:∀ v,AKF v=AO Try.prog AJ0 ARs Try.f73 Yy Yx Yw v:=by
 rintro⟨a0,⟨⟩⟩
 kernel_rfl
theorem ARr:AD (AU Try.f73) 0=[]:=by kernel_rfl
theorem AGg:AP Try.prog 73 (AG 2 Yy Yx Yw ACf):=AI YI Try.func73 (by kernel_rfl) (by kernel_rfl) rfl (fun v=>(AOx v).trans (ALn v)) (AA ARr trivial)
def Mx:Env:=AJ0.FP 73 1 74 (AG 2 Yy Yx Yw ACf)
theorem IJ:Ae Try.prog Mx:=Env.Bd YI AGg (AH rfl rfl)
end
end Go.Pev
end
section
namespace Go.Pev
open Go.Proofs
noncomputable section
abbrev LQ:Hints:={ loop:=fun n=>match n with|0=>Ad 0 47 ACJ ACH Fz|1=>Ad 0 47 ACI ACG Fy|_=>fun _ _ _=>none }
theorem ACE:∀ v,Fy v=roundOf Try.prog Mx LQ 2 0 47 (AB Try.f60 1) ACI ACG v:=by
 rintro⟨a0,a1,a2,a3,a4,a5,a6,⟨⟩⟩
 kernel_rfl
theorem AON:AD (AB Try.f60 1) 2=[]:=by kernel_rfl
theorem AOP:Ac Try.prog 0 (.loop (AB Try.f60 1)) (LQ.loop 1):=AW IJ (ACE) (AA AON trivial)
theorem ACF:∀ v,Fz v=roundOf Try.prog Mx LQ 1 0 47 (AB Try.f60 0) ACJ ACH v:=by
 rintro⟨a0,a1,a2,a3,a4,a5,a6,a7,a8,⟨⟩⟩
 kernel_rfl
theorem AOO:AD (AB Try.f60 0) 1=[]:=by kernel_rfl
theorem AOQ:Ac Try.prog 0 (.loop (AB Try.f60 0)) (LQ.loop 0):=AW IJ (ACF) (AA AOO trivial)
theorem ALU:∀ v,Qs v=AO Try.prog Mx LQ Try.f60 YZ YY YX v:=by
 rintro⟨a0,a1,a2,⟨⟩⟩
 kernel_rfl
theorem ARh:AD (AU Try.f60) 0=[(0,AB Try.f60 0),(1,AB Try.f60 1)]:=by kernel_rfl
theorem AGH:AP Try.prog 60 (AG 3 YZ YY YX ACL):=AI IJ Try.func60 (by kernel_rfl) (by kernel_rfl) rfl (fun v=>(ACK v).trans (ALU v)) (AA ARh ⟨AOQ,AOP,trivial⟩)
def ABy:Env:=Mx.ext 60 true true (AG 3 YZ YY YX ACL)
theorem Ve:Ae Try.prog ABy:=Env.Ai IJ AGH (fun _=>AM rfl rfl) (fun _=>AH rfl rfl)
abbrev ARp:Hints:={ fp:=fun n=>match n with|9=>[[],[28],[0],[0],[],[],[],[],[],[0],[0],[],[],[],[],[],[28],[28,52,36,62],[64],[]]|4=>[[0],[],[],[0],[],[],[],[]]|_=>[] }
theorem ALh:∀ v,LX v=AO Try.prog ABy ARp Try.f46 Yt Ys Yr v:=by
 rintro⟨a0,a1,a2,⟨⟩⟩
 kernel_rfl
theorem ARo:AD (AU Try.f46) 0=[]:=by kernel_rfl
theorem AGU:AP Try.prog 46 (AG 3 Yt Ys Yr Rx):=AI Ve Try.func46 (by kernel_rfl) (by kernel_rfl) rfl (fun v=>(Rw v).trans (ALh v)) (AA ARo trivial)
def ABz:Env:=ABy.ext 46 true true (AG 3 Yt Ys Yr Rx)
theorem Vi:Ae Try.prog ABz:=Env.Ai Ve AGU (fun _=>AM rfl rfl) (fun _=>AH rfl rfl)
theorem AOs:Try.f64.body.isSome=true:=by kernel_rfl
theorem AOr : (Try.f64.name == "runtime.NumGoroutine") = false := by kernel_rfl
theorem AOq:loops (AU Try.f64)=0:=by kernel_rfl
def II:Env:=ABz.ext 64 false false (FA Try.prog ABz {} Try.f64)
theorem HL:Ae Try.prog II:=Env.Ai Vi (Gs Vi Try.func64 AOs AOr AOq) (by simp) (by simp)
abbrev Ef:Hints:={ loop:=fun n=>match n with|0=>Ad 1 19 Gx Gw BU|_=>fun _ _ _=>none }
theorem JF:∀ v,BU v=roundOf Try.prog II Ef 1 1 19 (AB Try.f78 0) Gx Gw v:=by
 rintro⟨a0,a1,a2,a3,a4,⟨⟩⟩
 kernel_rfl
theorem ML:AD (AB Try.f78 0) 1=[]:=by kernel_rfl
theorem MM:Ac Try.prog 1 (.loop (AB Try.f78 0)) (Ef.loop 0):=AW HL (JF) (AA ML trivial)
theorem Kx:∀ v,DF v=AO Try.prog II Ef Try.f78 Ee Ed Ec v:=by
 rintro⟨a0,a1,a2,⟨⟩⟩
 kernel_rfl
theorem OU:AD (AU Try.f78) 0=[(0,AB Try.f78 0)]:=by kernel_rfl
theorem KD:AP Try.prog 78 (AG 2 Ee Ed Ec D7):=AI HL Try.func78 (by kernel_rfl) (by kernel_rfl) rfl (fun v=>(Gy v).trans (Kx v)) (AA OU ⟨MM,trivial⟩)
def Eu:Env:=II.FP 78 1 64 (AG 2 Ee Ed Ec D7)
theorem FZ:Ae Try.prog Eu:=Env.Bd HL KD (AH rfl rfl)
abbrev Md:Hints:={  }
theorem KE:∀ v,Cn v=AO Try.prog Eu Md Try.f63 EC EB EA v:=by
 rintro⟨a0,a1,a2,⟨⟩⟩
 kernel_rfl
theorem Mc:AD (AU Try.f63) 0=[]:=by kernel_rfl
theorem JN:AP Try.prog 63 (AG 2 EC EB EA Cf):=AI FZ Try.func63 (by kernel_rfl) (by kernel_rfl) rfl (fun v=>(GV v).trans (KE v)) (AA Mc trivial)
def EF:Env:=Eu.FP 63 1 64 (AG 2 EC EB EA Cf)
theorem FJ:Ae Try.prog EF:=Env.Bd FZ JN (AH rfl rfl)
abbrev AQz:Hints:={  }
theorem AJA:∀ v,MR v=AO Try.prog EF AQz Try.f53 UH UG UE v:=by
 rintro⟨a0,a1,⟨⟩⟩
 kernel_rfl
theorem AQy:AD (AU Try.f53) 0=[]:=by kernel_rfl
theorem AFM:AP Try.prog 53 (AG 2 UH UG UE OZ):=AI FJ Try.func53 (by kernel_rfl) (by kernel_rfl) rfl (fun v=>(Xx v).trans (AJA v)) (AA AQy trivial)
def NI:Env:=EF.ext 53 true true (AG 2 UH UG UE OZ)
theorem Jb:Ae Try.prog NI:=Env.Ai FJ AFM (fun _=>AM rfl rfl) (fun _=>AH rfl rfl)
abbrev AJK:Hints:={ loop:=fun n=>match n with|0=>Ad 0 21 AK8 AK7 H8|_=>fun _ _ _=>none }
theorem AJG:∀ v,H8 v=roundOf Try.prog NI AJK 1 0 21 (AB Try.f54 0) AK8 AK7 v:=by
 rintro⟨a0,a1,a2,a3,⟨⟩⟩
 kernel_rfl
theorem ATC:AD (AB Try.f54 0) 1=[]:=by kernel_rfl
theorem ATD:Ac Try.prog 0 (.loop (AB Try.f54 0)) (AJK.loop 0):=AW Jb (AJG) (AA ATC trivial)
theorem ARC:∀ v,ABI v=AO Try.prog NI AJK Try.f54 AJJ AJI AJH v:=by
 rintro⟨a0,⟨⟩⟩
 kernel_rfl
theorem AUD:AD (AU Try.f54) 0=[(0,AB Try.f54 0)]:=by kernel_rfl
theorem ANp:AP Try.prog 54 (AG 1 AJJ AJI AJH ends):=AI Jb Try.func54 (by kernel_rfl) (by kernel_rfl) rfl (fun v=>(AK9 v).trans (ARC v)) (AA AUD ⟨ATD,trivial⟩)
def AB6:Env:=NI.ext 54 true true (AG 1 AJJ AJI AJH ends)
theorem PG:Ae Try.prog AB6:=Env.Ai Jb ANp (fun _=>AM rfl rfl) (fun _=>AH rfl rfl)
abbrev K4:Hints:={ loop:=fun n=>match n with|0=>Ad 0 48 P8 P7 C3|_=>fun _ _ _=>none,fp:=fun n=>match n with|1=>[[0],[],[],[4],[]]|_=>[] }
theorem UU:∀ v,C3 v=roundOf Try.prog AB6 K4 1 0 48 (AB Try.f45 0) P8 P7 v:=by
 rintro⟨a0,a1,a2,a3,a4,a5,a6,⟨⟩⟩
 kernel_rfl
theorem AFY:AD (AB Try.f45 0) 1=[]:=by kernel_rfl
theorem AFZ:Ac Try.prog 0 (.loop (AB Try.f45 0)) (K4.loop 0):=AW PG (UU) (AA AFY trivial)
theorem ABJ:∀ v,IA v=AO Try.prog AB6 K4 Try.f45 K3 K2 K1 v:=by
 rintro⟨a0,a1,⟨⟩⟩
 kernel_rfl
theorem AJL:AD (AU Try.f45) 0=[(0,AB Try.f45 0)]:=by kernel_rfl
theorem Wo:AP Try.prog 45 (AG 3 K3 K2 K1 MY):=AI PG Try.func45 (by kernel_rfl) (by kernel_rfl) rfl (fun v=>(P9 v).trans (ABJ v)) (AA AJL ⟨AFZ,trivial⟩)
def LM:Env:=AB6.FP 45 2 46 (AG 3 K3 K2 K1 MY)
theorem KO:Ae Try.prog LM:=Env.Bd PG Wo (AH rfl rfl)
abbrev AQ7:Hints:={  }
theorem AJC:∀ v,MS v=AO Try.prog LM AQ7 Try.f30 UK UJ UI v:=by
 rintro⟨a0,a1,⟨⟩⟩
 kernel_rfl
theorem AQ6:AD (AU Try.f30) 0=[]:=by kernel_rfl
theorem AFO:AP Try.prog 30 (AG 2 UK UJ UI ABA):=AI KO Try.func30 (by kernel_rfl) (by kernel_rfl) rfl (fun v=>(Xy v).trans (AJC v)) (AA AQ6 trivial)
def Vv:Env:=LM.ext 30 true true (AG 2 UK UJ UI ABA)
theorem QP:Ae Try.prog Vv:=Env.Ai KO AFO (fun _=>AM rfl rfl) (fun _=>AH rfl rfl)
abbrev AUb:Hints:={  }
theorem AS9:∀ v,AK5 v=AO Try.prog Vv AUb Try.f21 AQ4 AQ3 AQ2 v:=by
 rintro⟨a0,a1,⟨⟩⟩
 kernel_rfl
theorem AUa:AD (AU Try.f21) 0=[]:=by kernel_rfl
theorem AQ1:AP Try.prog 21 (AG 2 AQ4 AQ3 AQ2 fof):=AI QP Try.func21 (by kernel_rfl) (by kernel_rfl) rfl (fun v=>(AQ5 v).trans (AS9 v)) (AA AUa trivial)
def ALO:Env:=Vv.ext 21 true true (AG 2 AQ4 AQ3 AQ2 fof)
theorem Vu:Ae Try.prog ALO:=Env.Ai QP AQ1 (fun _=>AM rfl rfl) (fun _=>AH rfl rfl)
abbrev AP8:Hints:={ loop:=fun n=>match n with|0=>Ad 0 18 AP6 AP4 Kh|_=>fun _ _ _=>none }
theorem AMU:∀ v,Kh v=roundOf Try.prog ALO AP8 1 0 18 (AB Try.f33 0) AP6 AP4 v:=by
 rintro⟨a0,a1,a2,a3,⟨⟩⟩
 kernel_rfl
theorem ATu:AD (AB Try.f33 0) 1=[]:=by kernel_rfl
theorem ATv:Ac Try.prog 0 (.loop (AB Try.f33 0)) (AP8.loop 0):=AW Vu (AMU) (AA ATu trivial)
theorem ASM:∀ v,AKX v=AO Try.prog ALO AP8 Try.f33 AP7 AP5 AP3 v:=by
 rintro⟨a0,⟨⟩⟩
 kernel_rfl
theorem AUX:AD (AU Try.f33) 0=[(0,AB Try.f33 0)]:=by kernel_rfl
theorem AP2:AP Try.prog 33 (AG 1 AP7 AP5 AP3 orI):=AI Vu Try.func33 (by kernel_rfl) (by kernel_rfl) rfl (fun v=>(AP9 v).trans (ASM v)) (AA AUX ⟨ATv,trivial⟩)
def ARe:Env:=ALO.ext 33 true true (AG 1 AP7 AP5 AP3 orI)
theorem AGD:Ae Try.prog ARe:=Env.Ai Vu AP2 (fun _=>AM rfl rfl) (fun _=>AH rfl rfl)
abbrev AQM:Hints:={  }
theorem AIR:∀ v,I8 v=AO Try.prog ARe AQM Try.f23 TX TW TV v:=by
 rintro⟨a0,⟨⟩⟩
 kernel_rfl
theorem AQL:AD (AU Try.f23) 0=[]:=by kernel_rfl
theorem AEZ:AP Try.prog 23 (AG 1 TX TW TV OE):=AI AGD Try.func23 (by kernel_rfl) (by kernel_rfl) rfl (fun v=>(OD v).trans (AIR v)) (AA AQL trivial)
def Vp:Env:=ARe.ext 23 true true (AG 1 TX TW TV OE)
theorem QL:Ae Try.prog Vp:=Env.Ai AGD AEZ (fun _=>AM rfl rfl) (fun _=>AH rfl rfl)
end
end Go.Pev
end
