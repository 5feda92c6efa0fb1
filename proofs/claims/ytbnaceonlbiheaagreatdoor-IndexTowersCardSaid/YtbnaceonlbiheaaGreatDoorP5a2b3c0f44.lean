/- A part of the proofs of this seat: TS27b U28a U28b U28c U28d U28e G28P25 G28P26 G28P. -/
import Derived.Test.YtbnaceonlbiheaaGreatDoorPb08b2d6ce6
import Derived.Test.YtbnaceonlbiheaaGreatDoorProg
set_option linter.unusedVariables false
set_option linter.unusedSimpArgs false
set_option linter.unusedSectionVars false
set_option maxRecDepth 100000
section
namespace Go.Pev.Pl
theorem r7(xs:List Int)(hs:xs.length<9223372036854775808):Gk (xs,())=some (!decide (∀ x∈xs,sh x),()):=by
 rw[KM,HN,LX,Ij]
 have e:=N3 (step:=D2) (fun i=>(xs,A4 xs,(i:Int),())) xs (fun x => !decide (sh x)) (fun i=>.inl ((i:Int),())) (.inr (.inl ())) hs
  (fun i x hi hx=>by
   rw[D2,A8,A_,AXb hi]
   simp only[BK hx,AHT]
   rw[A' (by omega)]
   by_cases h:sh x
   ·simp[h]
   ·simp[h])
  (by rw[D2,A8,A_,AXZ (by omega)])
 have e':A9 D2 many (xs,A4 xs,(0:Int),())=_:=e;rw[e'];have hany:(xs.any fun x => !decide (sh x)) = !decide (∀ x∈xs,sh x):=by rw[AZ5];simp
 rw[hany];generalize (!decide (∀ x∈xs,sh x))=b;cases b<;>simp[BZ]
theorem jF{xs:List Int}(hs:xs.length<1000000)(hx:∀ x∈xs,sh x)(e:Int):A9 F6 many ([e],xs,(A4 xs),(0:Int),())=some (.inl (e::xs.flatMap tw,())):=by
 have g:=Ct (step:=F6) (fun i (a:List Int)=>(a,xs,A4 xs,(i:Int),())) xs (fun x a=>.inl (a++tw x)) (fun a=>.inl (a,())) (fun i a=>a.length=1+2*i) (by omega)
  (fun i x a hi hxi ha=>by
   refine⟨fun m' h' => ?_,fun r h'=>by cases h'⟩
   cases h'
   have hsx:=hx x (AXk hxi)
   unfold sh at hsx
   rw[F6]
   simp only[A8]
   rw[A_,AXb hi]
   simp only[BK hxi,fG hxi,AXQ,wrap_u8]
   rw[show x/256 % 256=x/256 by omega,Bt (by simp;omega),A' (by omega)]
   exact⟨rfl,by rw[AXn,ha];simp[tw];omega⟩)
  (fun a _=>by rw[F6,A8,A_,AXZ (by omega)]) [e] rfl
 have g':A9 F6 many ([e],xs,A4 xs,(0:Int),())=_:=g;rw[g',B0,APt];rfl
theorem om(r:Res)(hs:r.2.2.1.length<65536):Vy (r,())=some (AJ1 r):=by
 obtain⟨e,c,l,u⟩:=r;simp only at hs;rw[W7,Rl];simp only[A8];rw[ABK _ (by simp) (by simp;omega)];simp only[wrap_u8,AYi,List.flatten_nil,AYf];rw[BR (by omega),Be];unfold AJ1;by_cases h1:0≤e∧e≤255;rw[AXb (show e=e % 256 by omega)];simp only[AXh];rw[r7 _ (by simp;omega)];simp only[];by_cases h2:∀ x∈[c,(l.length:Int)]++l,sh x;rw[AXb h2,AXp (show val (e,c,l,u)from⟨h1,h2 c (by simp),h2 _ (by simp),fun x hx=>h2 x (by simp[hx])⟩)];simp only[AXh];have g:=jF (xs:=[c,(l.length:Int)]++l) (by simp;omega) h2 (e % 256);simp only[A8]at g;rw[g,show e % 256=e by omega];rfl;rw[AXZ h2,AXo (show ¬ val (e,c,l,u)from fun h=>h2 fun x hx=>by simp only[AX3,AX2,AXf]at hx;rcases hx with rfl|rfl|hx;exact h.2.1;exact h.2.2.1;exact h.2.2.2 x hx)]
 rfl;rw[AXZ (show ¬ e=e % 256 by omega),AXo (show ¬ val (e,c,l,u)from fun h=>h1 h.1)];rfl
theorem bF{xs:List Int}(hs:xs.length<1000000)(a:List Int)(ha:a.length=5)(p q:Int):
  A9 EO many (p,q,xs,a,(0:Int),())=some (if ∀ x∈xs,sh x then .inr (.inl (a++xs.flatMap tw,()))else .inl (1,())):=by
 have g:=Ct (step:=EO) (fun i (a:List Int)=>(p,q,xs,a,(i:Int),())) xs (fun x a=>if sh x then .inl (a++tw x)else .inr (.inl (1,()))) (fun a=>.inr (.inl (a,()))) (fun i a=>a.length=5+2*i) (by omega)
  (fun i x a hi hxi ha=>by
   have step:EO (p,q,xs,a,(i:Int),())=if sh x then some (.inl (p,q,xs,a++tw x,((i+1:Nat):Int),()))else some (.inr (.inl (1,()))):=by
    rw[EO]
    simp only[A8]
    rw[A_,AXb hi]
    simp only[BK hxi,TF]
    by_cases h:sh x
    ·rw[AXb h,AXp h]
     simp only[AXh,Rc h]
     rw[Bt (by simp[tw];omega),A' (by omega)]
     rfl
    ·rw[AXZ h,AXo h]
     rfl
   by_cases h:sh x
   ·rw[AXp h]at step ⊢
    refine⟨fun m' h' => ?_,fun r h'=>by cases h'⟩
    cases h'
    exact⟨step,by rw[AXn,ha];simp[tw];omega⟩
   ·rw[AXo h]at step ⊢
    refine⟨fun m' h'=>(by cases h'),fun r h' => ?_⟩
    cases h'
    exact step)
  (fun a _=>by rw[EO,A8,A_,AXZ (by omega)]) a (by omega)
 have g':A9 EO many (p,q,xs,a,(0:Int),())=_:=g;rw[g'];congr 1;clear g g' hs ha;induction xs generalizing a with
  |nil=>simp[walk]
  |cons x xs ih=>rw[walk];by_cases h:sh x;rw[AXp h];simp only[];rw[ih];simp[h];rw[AXo h];simp[h]
theorem kn(r:Res)(hs:r.2.2.1.length<65536):Qw (r,())=some (AJ1 r):=by
 obtain⟨e,c,l,u⟩:=r;simp only at hs;rw[Ts,O9];simp only[A8,TF];rw[BM,BM];unfold AJ1;by_cases h1:0≤e∧e≤255;rw[AXZ (show ¬ e<0 by omega),AXZ (show ¬ 255<e by omega)];simp only[];by_cases h2:sh c;rw[AXb h2];simp only[AXh];have h3:sh (l.length:Int):=by unfold sh;omega
 rw[AXb h3];simp only[AXh,Rc h2,Rc h3];rw[Bt (by simp[tw]),Bt (by simp[tw,BT])];simp only[wrap_u8];rw[bF (by omega) _ (by simp[tw,BT])];by_cases h4:∀ x∈l,sh x;rw[AXp h4,AXp (show val (e,c,l,u)from⟨h1,h2,h3,h4⟩),show e % 256=e by omega];simp[enc,BT];rw[AXo h4,AXo (show ¬ val (e,c,l,u)from fun h=>h4 h.2.2.2)];rw[AXZ h2,AXo (show ¬ val (e,c,l,u)from fun h=>h2 h.2.1)];rfl;rw[AXo (show ¬ val (e,c,l,u)from fun h=>h1 h.1)];by_cases h0:e<0;rw[AXb h0];rw[AXZ h0,AXb (by omega)]
end Go.Pev.Pl
end
section
namespace Go.Pev.Pl
abbrev uP:=(Int×(List (Int×Int×Int×Bool×Unit))×Unit)×Int×Int×Unit
abbrev Tw8:=(List Int)×(List Int)×(List (List Int))×Unit
def tR(n:Int):Bool:=decide (0≤n)&&decide (n≤1099511627776)
theorem kP(n:Int):MW (n,())=some (tR n,()):=by rw[Tj,O4,BZ,BZ,tR];cases decide (0≤n)<;>rfl
theorem bK(n:Int):KK (n,())=some (tR n,()):=by rw[Q1,Mm,BZ,BZ,tR];cases decide (0≤n)<;>rfl
structure SR(N:Nat)(ts:List Tie)(b c:Int):Prop where
 g:RG2 N ts
 hb:tR b=true
 hc:tR c=true
theorem AMH(n:Int)(ts:List Tie)(b c:Int)(hl:ts.length<4611686018427387904):
  (HK (((n,(ts,())),(b,(c,()))),())=some (false,())∧Pk (((n,(ts,())),(b,(c,()))),())=some (false,())) ∨
  ∃ N:Nat,n=(N:Int)∧SR N ts b c∧HK (((n,(ts,())),(b,(c,()))),())=some (true,())∧Pk (((n,(ts,())),(b,(c,()))),())=some (true,()):=by
 rw[eW,YB,XN,Rs];simp only[kP,bK];rcases AHv n ts hl with⟨r1,r2⟩|⟨N,rfl,h⟩
 left;simp only[r1,r2];trivial;simp only[h.r21,h.lr];cases hb:tR b;left;trivial;cases hc:tR c;left;trivial;right;exact⟨N,rfl,⟨h,hb,hc⟩,rfl,rfl⟩
noncomputable def tw8(s:List Int)(tks:List Int):Tw8:=(tks,(tks.map (htF s),(NX (tks.map (htF s)) tks.length,())))
theorem ho8{s:List Int}(hs:U32 s){n:Int}{tks:List Int}(h:RG n tks):HO (tks.map (htF s)) tks.length:=⟨by simp,by
 cases tks with
  |nil=>exact absurd rfl h.2.1
  |cons x xs=>simp,h.1.1,fun x hx=>by
 obtain⟨t,_,rfl⟩:=AYE.1 hx;exact ATg hs t⟩
theorem cx{α β:Type}(f:α→β):∀ (xs:List α) (a:List β),xs.foldl (fun a x=>a++[f x]) a=a++xs.map f:=by
 intro xs;induction xs with
  |nil=>intro a;simp
  |cons x xs ih=>intro a;rw[AYI,ih];simp
section
variable {s:List Int} {n:Int} {zs:List (List Int)}
theorem kC(hs:U32 s)(hl:zs.length≤64)(hz:∀ z∈zs,RG n z):
  A9 IX many (s,([]:List Tw8),zs,A4 zs,(0:Int),())=some (.inl (zs.map (tw8 s),())):=by
 have e:=Ct (step:=IX) (fun i (a:List Tw8)=>(s,a,zs,A4 zs,(i:Int),())) zs (fun x a=>.inl (a++[tw8 s x])) (fun a=>.inl (a,())) (fun i a=>a.length≤i) (by omega)
  (fun i x a hi hx ha=>by
   refine⟨fun m' h' => ?_,fun r h'=>(by cases h')⟩
   cases h'
   have hr:=hz x (AXk hx)
   constructor
   ·rw[IX,A8,A_,AXb hi]
    simp only[BK hx,aL hs x hr.1.1,n6 hr.1 rfl (ho8 hs hr)]
    rw[A' (by omega),Bt (by simp only[A8,AYO];omega)]
    rfl
   ·simp;omega)
  (fun a _=>by rw[IX,A8,A_,AXZ (by omega)]) [] (AXl _)
 rw[B0 (fun(x:List Int) (a:List Tw8)=>a++[tw8 s x]),cx]at e;exact e
theorem aM(hs:U32 s)(hl:zs.length≤64)(hz:∀ z∈zs,RG n z)(m:Int):
  A9 Gu many (s,m,zs,([]:List Tw8),(0:Int),())=some (.inl (zs.map (tw8 s),())):=by
 have e:=Ct (step:=Gu) (fun i (a:List Tw8)=>(s,m,zs,a,(i:Int),())) zs (fun x a=>.inl (a++[tw8 s x])) (fun a=>.inl (a,())) (fun i a=>a.length≤i) (by omega)
  (fun i x a hi hx ha=>by
   refine⟨fun m' h' => ?_,fun r h'=>(by cases h')⟩
   cases h'
   have hr:=hz x (AXk hx)
   constructor
   ·rw[Gu,A8,A_,AXb hi]
    simp only[BK hx,bD hs x hr.1.1,tr hr.1 rfl (ho8 hs hr)]
    rw[A' (by omega),Bt (by simp only[A8,AYO];omega)]
    rfl
   ·simp;omega)
  (fun a _=>by rw[Gu,A8,A_,AXZ (by omega)]) [] (AXl _)
 rw[B0 (fun(x:List Int) (a:List Tw8)=>a++[tw8 s x]),cx]at e;exact e
theorem XC(hs:U32 s)(hl:zs.length≤64)(hz:∀ z∈zs,RG n z):Pg (zs.map (tw8 s),zs.map (tw8 s),())=some (true,()):=by
 have e:=Ct (step:=IF) (fun i (_:Unit)=>(zs.map (tw8 s),zs.map (tw8 s),(i:Int),())) zs (fun _ a=>.inl a) (fun _=>.inr (.inl ())) (fun _ _=>True) (by omega)
  (fun i x a hi hx _=>by
   refine⟨fun m' h' => ?_,fun r h'=>(by cases h')⟩
   cases h'
   have hr:=hz x (AXk hx)
   have hx':(zs.map (tw8 s))[i]? = some (tw8 s x):=by rw[AZS,hx];rfl
   refine⟨?_,trivial⟩
   have h4:=pM (toks:=x) rfl (ho8 hs hr)
   rw[IF,A8,AYU,A_,AXb hi]
   simp only[BK hx',tw8,h4,AXh]
   rw[A' (by omega)])
  (fun a _=>by rw[IF,A8,AYU,A_,AXZ (by omega)]) () trivial
 rw[B0 (fun _ (a:Unit)=>a)]at e;have e':A9 IF many (zs.map (tw8 s),zs.map (tw8 s),(0:Int),())=_:=e;rw[XD,Rp];simp only[G1,AXh,e']
end
theorem FC.len{N:Nat}{ts:List Tie}(h:RG2 N ts){zs:List (List Int)}{k:Int}(hF:FC (N:Int) zs (trk ts k)):zs.length≤64:=by have h1:=hF.count h.h1 h.hN (by have:=h.ht;unfold trk;simp only[AYU];exact Nat.lt_of_le_of_lt (List.length_filter_le _ _) (by omega)) (h.inK k);have h2:=AW6 N (trk ts k);have:=h.hN;omega
theorem oG{s:List Int}(hs:U32 s)(n:Int)(ts:List Tie)(b c:Int)(hl:ts.length<4611686018427387904):
  ∃ (l:List Tw8) (e:Int),K7 (((n,(ts,())),(b,(c,()))),s,())=some (l,e,())∧PU (((n,(ts,())),(b,(c,()))),s,())=some (l,e,())∧Pg (l,l,())=some (true,()):=by
 rcases AMH n ts b c hl with⟨r1,r2⟩|⟨N,rfl,h,r1,r2⟩
 refine⟨[],1,?_,?_,XC (s:=s) (n:=0) (zs:=[]) hs (by simp) (by simp)⟩;rw[Ol,NY];simp only[r1,AYL];rw[Lt,Kh];simp only[r2,AYL];obtain⟨zs,e1,e2,hF⟩:=h.g.both 0;have hz:=hF.fr.rg;have hlz:=FC.len h.g hF;refine⟨zs.map (tw8 s),0,?_,?_,XC hs hlz hz⟩;rw[Ol,NY];simp only[r1,AXh,e1,kC hs hlz hz];rw[Lt,Kh];simp only[r2,AXh,e2,aM hs hlz hz]
end Go.Pev.Pl
end
section
namespace Go.Pev.Pl
abbrev Q_:=Int×Int×(List Int)×Unit
abbrev RR8:=(Int×Unit)⊕(List Int×Unit)⊕Unit
noncomputable def aR(x:Q_)(a:List Int):List Int⊕RR8:=if val x then .inl (a++enc x)else .inr (.inl (1,()))
noncomputable def ANA(l:List Q_)(a:List Int):RR8:=walk aR (fun a=>.inr (.inl (a,()))) l a
theorem yT:∀ (l:List Q_) (a:List Int),ANA l a = .inl (1,())∨∃ b,ANA l a = .inr (.inl (b,())):=by
 intro l;induction l with
  |nil=>exact fun a=>.inr ⟨a,rfl⟩
  |cons x l ih=>intro a;unfold ANA at *;rw[walk];unfold aR;by_cases h:val x;rw[AXp h];exact ih _;rw[AXo h];exact .inl rfl
section
variable {l:List Q_}
theorem rn(hl:l.length≤10)(h:∀ x∈l,x.2.2.1.length≤100):A9 Hw many (([]:List Int),l,A4 l,(0:Int),())=some (ANA l []):=by
 refine Ct (step:=Hw) (fun i (a:List Int)=>(a,l,A4 l,(i:Int),())) l aR (fun a=>.inr (.inl (a,()))) (fun i a=>a.length≤205*i) (by omega)
  (fun i x a hi hx ha => ?_) (fun a _=>by rw[Hw,A8,A_,AXZ (by omega)]) [] (AXl _)
 have hx1:=h x (AXk hx);have hv:=om x (by omega);have hln:=AE8 x;obtain⟨x1,x2,x3,⟨⟩⟩:=x;simp only at hln hx1;have key:Hw (a,l,A4 l,(i:Int),())=match aR (x1,x2,x3,()) a with
   |.inl a'=>some (.inl (a',l,A4 l,((i+1:Nat):Int),()))
   |.inr r=>some (.inr r):=by
  rw[Hw,A8,A_,AXb hi]
  simp only[BK hx,hv]
  unfold aR AJ1
  by_cases hq:val (x1,x2,x3,())
  ·rw[AXp hq,AXp hq]
   simp only[G1,AXh]
   rw[Bt (by simp only[A8];omega),A' (by omega)]
   rfl
  ·rw[AXo hq,AXo hq]
   rw[show ieq (1:Int) 0=false from D_ _ _]
   rfl
 refine⟨fun a' h' => ?_,fun r h' => ?_⟩;rw[key,h'];refine⟨rfl,?_⟩;unfold aR at h';split at h';cases h';rw[AXn];omega;cases h';rw[key,h']
theorem jX(hl:l.length≤10)(h:∀ x∈l,x.2.2.1.length≤100):A9 GB many (l,([]:List Int),(0:Int),())=some (ANA l []):=by
 refine Ct (step:=GB) (fun i (a:List Int)=>(l,a,(i:Int),())) l aR (fun a=>.inr (.inl (a,()))) (fun i a=>a.length≤205*i) (by omega)
  (fun i x a hi hx ha => ?_) (fun a _=>by rw[GB,A8,A_,AXZ (by omega)]) [] (AXl _)
 have hx1:=h x (AXk hx);have hv:=kn x (by omega);have hln:=AE8 x;obtain⟨x1,x2,x3,⟨⟩⟩:=x;simp only at hln hx1;have key:GB (l,a,(i:Int),())=match aR (x1,x2,x3,()) a with
   |.inl a'=>some (.inl (l,a',((i+1:Nat):Int),()))
   |.inr r=>some (.inr r):=by
  rw[GB,A8,A_,AXb hi]
  simp only[BK hx,hv]
  unfold aR AJ1
  by_cases hq:val (x1,x2,x3,())
  ·rw[AXp hq,AXp hq]
   simp only[G1,AXh]
   rw[Bt (by simp only[A8];omega),A' (by omega)]
   rfl
  ·rw[AXo hq,AXo hq]
   rw[show ieq (1:Int) 0=false from D_ _ _]
   rfl
 refine⟨fun a' h' => ?_,fun r h' => ?_⟩;rw[key,h'];refine⟨rfl,?_⟩;unfold aR at h';split at h';cases h';rw[AXn];omega;cases h';rw[key,h']
theorem yR(hl:l.length≤10)(h:∀ x∈l,x.2.2.1.length≤100):∃ (b:List Int) (e:Int),On (l,())=some (b,e,())∧V_ (l,())=some (b,e,()):=by
 rw[eX,YC,XQ,Rx];simp only[rn hl h,jX hl h];rcases yT l []with e|⟨b,e⟩
 rw[e];exact⟨_,_,rfl,rfl⟩;rw[e];exact⟨_,_,rfl,rfl⟩
end
theorem AHV(x:List Int):seq? x x=true:=by rw[seq_eq];simp[AMi]
theorem sG(n:Int)(ts:List Tie)(b c:Int):Qi (((n,(ts,())),(b,(c,()))),((0:Int),((0:Int),(((0:Int),((0:Int),(([]:List (List Int)),()))),()))),())=some (true,())∨(Qi (((n,(ts,())),(b,(c,()))),((0:Int),((0:Int),(((0:Int),((0:Int),(([]:List (List Int)),()))),()))),())=some (false,())∧ts.length≤30):=by rw[Yg,SZ];simp only[A8,BM];by_cases h1:(30:Int)<ts.length;rw[AXb h1];exact .inl rfl;rw[AXZ h1];by_cases h2:(12:Int)<n;rw[AXb h2];exact .inl rfl;rw[AXZ h2];exact .inr ⟨rfl,by omega⟩
def eN(x:Q_):Bool:=decide ((100:Int)<x.2.2.1.length)
theorem YE(ha:Q9 ()=some (true,()))(g:uP)(s:List Int)(l:List Q_){P Q:Prop}(_:P)(h1:wfD (.slice (.int .u32)) s)(_:Q):Di (g,s,l,())=some (true,()):=by
 have hs:=AVF h1;obtain⟨⟨n,ts,⟨⟩⟩,b,c,⟨⟩⟩:=g;rw[ML,Jh];simp only[ha,AXh];rcases sG n ts b c with g1|⟨g1,g2⟩
 simp only[g1];simp only[g1,A8];by_cases hl:(10:Int)<l.length;rw[BM,AXb hl];rw[BM,AXZ hl]
 have e:=Ct (step:=Dd) (fun i (_:Unit)=>(s,l,n,ts,b,c,(i:Int),())) l (fun x (_:Unit)=>if eN x=true then .inr (.inl (true,()))else .inl ()) (fun _=>.inr (.inl (s,l,n,ts,b,c,()))) (fun _ _=>True) (by omega)
  (fun i x a hi hx _=>by
   have key:Dd (s,l,n,ts,b,c,(i:Int),())=if eN x=true then some (.inr (.inl (true,())))else some (.inl (s,l,n,ts,b,c,((i+1:Nat):Int),())):=by
    rw[Dd,A8,A_,AXb hi]
    simp only[BK hx,A8,BM]
    rw[A' (by omega)]
    unfold eN
    cases decide ((100:Int)<x.2.2.1.length)<;>rfl
   refine⟨fun m' h' => ?_,fun r h' => ?_⟩
   ·rw[key]
    split at h'
    ·cases h'
    ·rename_i q
     rw[AXo q];exact⟨rfl,trivial⟩
   ·rw[key]
    split at h'
    ·rename_i q
     cases h'
     rw[AXp q]
    ·cases h')
  (fun a _=>by rw[Dd,A8,A_,AXZ (by omega)]) () trivial
 rw[AGu]at e;have e':A9 Dd many (s,l,n,ts,b,c,(0:Int),())=_:=e;simp only[e'];by_cases hg:l.any eN=true;rw[AXp hg];rw[AXo hg];have hx:∀ x∈l,x.2.2.1.length≤100:=by intro x hx;have:¬ eN x=true:=fun q=>hg (AZf.2 ⟨x,hx,q⟩);unfold eN at this;rw[AZM]at this;omega
 obtain⟨t,e1,p1,p2,p3⟩:=oG hs n ts b c (by omega);obtain⟨r,e2,q1,q2⟩:=yR (l:=l) (by omega) hx;simp only[p1,p2,p3,q1,q2,G1,AHV]
end Go.Pev.Pl
end
section
namespace Go.Pev.Pl
abbrev Bt8:=Int×(List (Int×Int×Unit))×(List (Int×Int×Int×Unit))×Unit
abbrev Wy8:=Int×Int×(Int×Int×(List (List Int))×Unit)×Unit
theorem IU{α β:Type}(f:Lk→α→β){a:α}{v:β}(h:f idI a=v):f lockI a=v:=by rw[X0];exact h
inductive Rn(w:Wy8):uP→List Bt8→uP→List Q_→Prop
 |nil (s:uP):Rn w s [] s []
 |cons {s a t:uP} {x:Bt8} {r:Q_} {xs:List Bt8} {l:List Q_}:El (s,x,w,())=some (a,r,())→Rn w a xs t l→Rn w s (x::xs) t (r::l)
theorem Rn.iter{w:Wy8}{s t:uP}{bs:List Bt8}{l:List Q_}(h:Rn w s bs t l):∀ (pre:List Bt8) (acc:List Q_) (e:Int) (m:Nat),bs.length<m→acc.length+bs.length<1000000→pre.length+bs.length<1000000 →
  BE QH m (s.1.1,s.1.2.1,s.2.1,s.2.2.1,w.1,w.2.1,w.2.2.1.1,w.2.2.1.2.1,w.2.2.1.2.2.1,(0:Int),(0:Int),(0:Int),e,acc,pre++bs,A4 (pre++bs),(pre.length:Int),())=some (.inl (t.1.1,t.1.2.1,t.2.1,t.2.2.1,0,0,0,e,acc++l,())):=by
 induction h with
  |nil s=>
   intro pre acc e m hm _ _;obtain⟨k,rfl⟩:∃ k,m=k+1:=⟨m-1,by simp only[AXs]at hm;omega⟩
   rw[BE,QH,A8,A_,AXZ (by simp),AYf,AYf]
  |@cons s a t x r xs l ht _ ih=>
   intro pre acc e m hm ha hp;simp only[AXg]at hm ha hp;obtain⟨k,rfl⟩:∃ k,m=k+1:=⟨m-1,by omega⟩
   have hx:(pre++x::xs)[pre.length]? = some x:=by simp
   have h2:=ih (pre++[x]) (acc++[r]) e k (by omega) (by simp only[AXn,AYO];omega) (by simp only[AXn,AYO];omega);simp only[AZF,AZC,AXn,AYO]at h2;obtain⟨⟨s1,s2,⟨⟩⟩,s3,s4,⟨⟩⟩:=s;obtain⟨w1,w2,⟨w3,w4,w5,⟨⟩⟩,⟨⟩⟩:=w;obtain⟨x1,x2,x3,⟨⟩⟩:=x;obtain⟨r1,r2,r3,⟨⟩⟩:=r;rw[BE,QH,A8,A_,AXb (by simp)];simp only[BK hx,ht];rw[Bt (by simp only[A8,AYO];omega),A' (by omega)];simp only[Dt,← A8];exact h2
theorem Rn.run{w:Wy8}{s t:uP}{bs:List Bt8}{l:List Q_}(h:Rn w s bs t l)(hr:HK (s,())=some (true,())){b:List Int}{p e:Int}(hs:Kd (b,())=some (bs,p,e,()))(hb:bs.length<900000)(hl:l.length<900000):
  AOv (s,b,w,())=some (t,l++(if e=0 then []else [(e,((0:Int),([],())))]),e,()):=by have h2:=h.iter [] [] e many (by simp only[many];omega) (by simp only[AXs];omega) (by simp only[AXs];omega);rw[AEf,AAQ];obtain⟨⟨s1,s2,⟨⟩⟩,s3,s4,⟨⟩⟩:=s;simp only[hr,AXh,hs];rw[Bf];have h3:BE QH many (s1,s2,s3,s4,w.1,w.2.1,w.2.2.1.1,w.2.2.1.2.1,w.2.2.1.2.2.1,(0:Int),(0:Int),(0:Int),e,([]:List Q_),bs,A4 bs,(0:Int),())=_:=h2;simp only[h3,AX2];rw[Be];by_cases he:e=0;rw[AXb he,AXp he,AYf];rfl;rw[AXZ he,AXo he];simp only[AYL];rw[Bt (by simp only[A8,AYO];omega)];rfl
end Go.Pev.Pl
end
section
namespace Go.Pev.Pl
theorem AQ6:Yb ((4:Int),())=some (((4,([],())),(0,(0,()))),0,()):=IU (fun i=>@Yb i) (by kernel_rfl)
theorem AXD:Kd (([(1:Int),(0:Int),(2:Int),(0:Int),(3:Int),(0:Int),(1:Int),(0:Int),(0:Int),(0:Int),(1:Int),(3:Int),(0:Int),(2:Int),(3:Int),(0:Int),(3:Int),(0:Int),(0:Int),(4:Int),(0:Int),(0:Int),(0:Int),(0:Int),(2:Int),(0:Int),(1:Int),(0:Int),(0:Int),(0:Int),(1:Int),(3:Int),(0:Int),(1:Int),(2:Int),(0:Int),(3:Int),(0:Int),(0:Int),(9:Int)]:List Int),())=some ([(1,([(3,(1,())),(0,(1,()))],([],()))),(3,([],([(3,(3,(0,()))),(4,(0,(0,())))],()))),(2,([(0,(1,()))],([],()))),(3,([],([(2,(3,(0,())))],())))],(39,(8,()))):=IU (fun i=>@Kd i) (by kernel_rfl)
theorem AXC:El ((((4:Int),(([]:List (Int×Int×Int×Bool×Unit)),())),((0:Int),((0:Int),()))),((1:Int),(([(3,(1,())),(0,(1,()))]:List (Int×Int×Unit)),(([]:List (Int×Int×Int×Unit)),()))),((8:Int),((2:Int),(((1:Int),((2:Int),(([[(0:Int),(0:Int)],[(1:Int),(0:Int)]]:List (List Int)),()))),()))),())=some (((4,([(0,(1,(0,(true,())))),(1,(3,(0,(true,()))))],())),(1,(16,()))),((0,(2,([],()))),())):=IU (fun i=>@El i) (by kernel_rfl)
theorem AXB:El ((((4:Int),(([(0,(1,(0,(true,())))),(1,(3,(0,(true,()))))]:List (Int×Int×Int×Bool×Unit)),())),((1:Int),((16:Int),()))),((3:Int),(([]:List (Int×Int×Unit)),(([(3,(3,(0,()))),(4,(0,(0,())))]:List (Int×Int×Int×Unit)),()))),((8:Int),((2:Int),(((1:Int),((2:Int),(([[(0:Int),(0:Int)],[(1:Int),(0:Int)]]:List (List Int)),()))),()))),())=some (((4,([(0,(1,(0,(true,())))),(1,(3,(0,(true,()))))],())),(2,(19,()))),((0,(0,([3,2],()))),())):=IU (fun i=>@El i) (by kernel_rfl)
theorem AXA:El ((((4:Int),(([(0,(1,(0,(true,())))),(1,(3,(0,(true,()))))]:List (Int×Int×Int×Bool×Unit)),())),((2:Int),((19:Int),()))),((2:Int),(([(0,(1,()))]:List (Int×Int×Unit)),(([]:List (Int×Int×Int×Unit)),()))),((8:Int),((2:Int),(((1:Int),((2:Int),(([[(0:Int),(0:Int)],[(1:Int),(0:Int)]]:List (List Int)),()))),()))),())=some (((4,([(1,(3,(0,(true,()))))],())),(3,(31,()))),((0,(1,([],()))),())):=IU (fun i=>@El i) (by kernel_rfl)
theorem AW9:El ((((4:Int),(([(1,(3,(0,(true,()))))]:List (Int×Int×Int×Bool×Unit)),())),((3:Int),((31:Int),()))),((3:Int),(([]:List (Int×Int×Unit)),(([(2,(3,(0,())))]:List (Int×Int×Int×Unit)),()))),((8:Int),((2:Int),(((1:Int),((2:Int),(([[(0:Int),(0:Int)],[(1:Int),(0:Int)]]:List (List Int)),()))),()))),())=some (((4,([(1,(3,(0,(true,()))))],())),(4,(32,()))),((0,(0,([1],()))),())):=IU (fun i=>@El i) (by kernel_rfl)
theorem AW8:El ((((4:Int),(([(1,(3,(0,(true,()))))]:List (Int×Int×Int×Bool×Unit)),())),((4:Int),((32:Int),()))),((2:Int),(([((4:Int),((0:Int),()))]:List (Int×Int×Unit)),(([]:List (Int×Int×Int×Unit)),()))),((8:Int),((2:Int),(((1:Int),((2:Int),(([[(0:Int),(0:Int)],[(1:Int),(0:Int)]]:List (List Int)),()))),()))),())=some (((4,([(1,(3,(0,(true,()))))],())),(4,(32,()))),((10,(0,([],()))),())):=IU (fun i=>@El i) (by kernel_rfl)
theorem AW7:K7 ((((4:Int),(([(1,(3,(0,(true,()))))]:List (Int×Int×Int×Bool×Unit)),())),((4:Int),((32:Int),()))),([(1:Int),(2:Int)]:List Int),())=some ([([0],([1],([[0]],()))),([1,11,3,17],([2,2,2,2],([[1,1],[2,2],[3,3],[0,0]],()))),([2],([1],([[0]],())))],(0,())):=IU (fun i=>@K7 i) (by kernel_rfl)
theorem AXE:On (([(0,(2,([],()))),(0,(0,([3,2],()))),(0,(1,([],()))),(0,(0,([1],()))),(8,(0,([],())))]:List (Int×Int×(List Int)×Unit)),())=some ([0,0,2,0,0,0,0,0,0,2,0,3,0,2,0,0,1,0,0,0,0,0,0,1,0,1,8,0,0,0,0],(0,())):=IU (fun i=>@On i) (by kernel_rfl)
theorem AXF:Rn ((8:Int),((2:Int),(((1:Int),((2:Int),(([[(0:Int),(0:Int)],[(1:Int),(0:Int)]]:List (List Int)),()))),()))) (((4:Int),(([]:List (Int×Int×Int×Bool×Unit)),())),((0:Int),((0:Int),()))) ([((1:Int),(([(3,(1,())),(0,(1,()))]:List (Int×Int×Unit)),(([]:List (Int×Int×Int×Unit)),()))),((3:Int),(([]:List (Int×Int×Unit)),(([(3,(3,(0,()))),(4,(0,(0,())))]:List (Int×Int×Int×Unit)),()))),((2:Int),(([(0,(1,()))]:List (Int×Int×Unit)),(([]:List (Int×Int×Int×Unit)),()))),((3:Int),(([]:List (Int×Int×Unit)),(([(2,(3,(0,())))]:List (Int×Int×Int×Unit)),())))]:List (Int×(List (Int×Int×Unit))×(List (Int×Int×Int×Unit))×Unit)) (((4:Int),(([(1,(3,(0,(true,()))))]:List (Int×Int×Int×Bool×Unit)),())),((4:Int),((32:Int),()))) [(0,(2,([],()))),(0,(0,([3,2],()))),(0,(1,([],()))),(0,(0,([1],())))]:=.cons AXC (.cons AXB (.cons AXA (.cons AW9 (.nil _))))
theorem AXH:HK ((((4:Int),(([]:List (Int×Int×Int×Bool×Unit)),())),((0:Int),((0:Int),()))),())=some (true,()):=IU (fun i=>@HK i) (by kernel_rfl)
theorem AWa:AOv ((((4:Int),(([]:List (Int×Int×Int×Bool×Unit)),())),((0:Int),((0:Int),()))),([(1:Int),(0:Int),(2:Int),(0:Int),(3:Int),(0:Int),(1:Int),(0:Int),(0:Int),(0:Int),(1:Int),(3:Int),(0:Int),(2:Int),(3:Int),(0:Int),(3:Int),(0:Int),(0:Int),(4:Int),(0:Int),(0:Int),(0:Int),(0:Int),(2:Int),(0:Int),(1:Int),(0:Int),(0:Int),(0:Int),(1:Int),(3:Int),(0:Int),(1:Int),(2:Int),(0:Int),(3:Int),(0:Int),(0:Int),(9:Int)]:List Int),((8:Int),((2:Int),(((1:Int),((2:Int),(([[(0:Int),(0:Int)],[(1:Int),(0:Int)]]:List (List Int)),()))),()))),())=some ((((4:Int),(([(1,(3,(0,(true,()))))]:List (Int×Int×Int×Bool×Unit)),())),((4:Int),((32:Int),()))),[(0,(2,([],()))),(0,(0,([3,2],()))),(0,(1,([],()))),(0,(0,([1],()))),(8,(0,([],())))],8,()):=AXF.run AXH AXD (AYD rfl) (AYD rfl)
theorem AWc:uK (([(0,(2,([],()))),(0,(0,([3,2],()))),(0,(1,([],()))),(0,(0,([1],()))),(8,(0,([],())))]:List (Int×Int×(List Int)×Unit)),([(0,(2,([],()))),(0,(0,([3,2],()))),(0,(1,([],()))),(0,(0,([1],()))),(8,(0,([],())))]:List (Int×Int×(List Int)×Unit)),())=some (true,()):=IU (fun i=>@uK i) (by kernel_rfl)
theorem AWb:HK ((((4:Int),(([(1,(3,(0,(true,()))))]:List (Int×Int×Int×Bool×Unit)),())),((4:Int),((32:Int),()))),())=some (true,()):=IU (fun i=>@HK i) (by kernel_rfl)
theorem AXG:rk ((((4:Int),(([(1,(3,(0,(true,()))))]:List (Int×Int×Int×Bool×Unit)),())),((4:Int),((32:Int),()))),(((4:Int),(([(1,(3,(0,(true,()))))]:List (Int×Int×Int×Bool×Unit)),())),((4:Int),((32:Int),()))),())=some (true,()):=IU (fun i=>@rk i) (by kernel_rfl)
theorem AWY:Rq (((10:Int),((0:Int),(([]:List Int),()))),((10:Int),((0:Int),(([]:List Int),()))),())=some (true,()):=IU (fun i=>@Rq i) (by kernel_rfl)
theorem AWZ:XF (((4:Int),(([(1,(3,(0,(true,()))))]:List (Int×Int×Int×Bool×Unit)),())),((4:Int),(([(1,(3,(0,(true,()))))]:List (Int×Int×Int×Bool×Unit)),())),())=some (true,()):=IU (fun i=>@XF i) (by kernel_rfl)
theorem AWX:nw ()=some (8,2,1,2,[[0,0],[1,0]],()):=by rw[nv];rfl
theorem lj:Q9 ()=some (true,()):=by rw[ZP,Sv];simp only[AQ6,AWX,AWa,AW7,AXE,AWc,AWb,AWZ,D_,BM,A4];erw [AW8];simp only[AXG,AWY];rfl
end Go.Pev.Pl
end
section
namespace Go.Pev.Pl
theorem SQ(g:uP)(s:List Int)(l:List Q_){P Q:Prop}(h0:P)(h1:wfD (.slice (.int .u32)) s)(h2:Q):Di (g,s,l,())=some (true,()):=YE lj g s l h0 h1 h2
end Go.Pev.Pl
end
section
namespace Go.Pev
open Go.Proofs
noncomputable section
abbrev Tu:Row:=⟨33,0,0,1,0,none,BL,[(.ret,BG)],A6,[],[]⟩
def UM[Lk]:Env:=Tu.BC vg KK
theorem aD:A5 Tryz.prog UM:=Row.A2 Tu vf Tryz.func33 Q1
abbrev dL:Row:=⟨8,0,0,1,0,none,rl,[(.ret,BG)],A6,[],[]⟩
def gL[Lk]:Env:=dL.BC UM Pk
theorem mQ:A5 Tryz.prog gL:=Row.A2 dL aD Tryz.func8 XN
abbrev Wr:Row:=⟨17,0,0,2,0,none,Wq,[(.ret,Wp)],BO,[(8,[[0],[0],[],[],[],[0],[0],[],[],[],[],[],[4],[],[],[],[],[21],[]])],[(0,oH,S_)]⟩
def Zg[Lk]:Env:=Wr.BC gL PU
theorem bU:A5 Tryz.prog Zg:=Row.A2 Wr mQ Tryz.func17 Lt
abbrev dD:Row:=⟨20,0,0,2,0,none,AHc,[(.ret,BG)],A6,[(6,[[],[],[],[],[],[],[],[],[],[]])],[(0,xw,Hy)]⟩
def gI[Lk]:Env:=dD.BC Zg Pg
theorem mN:A5 Tryz.prog gI:=Row.A2 dD bU Tryz.func20 XD
abbrev dS:Row:=⟨19,0,0,1,0,none,dR,[(.ret,LI)],BO,[],[(0,yS,Mg)]⟩
def gP[Lk]:Env:=dS.BC gI V_
theorem mU:A5 Tryz.prog gP:=Row.A2 dS mN Tryz.func19 XQ
abbrev AFc:Row:=⟨24,0,0,2,0,none,AUW,[(.ret,BG)],A6,[(6,[[],[],[],[],[],[],[],[],[],[]])],[(0,AQ4,Hy)]⟩
def AGZ[Lk]:Env:=AFc.BC gP uK
theorem ACi:A5 Tryz.prog AGZ:=Row.A2 AFc mU Tryz.func24 AQ5
abbrev r9:Row:=⟨21,0,0,1,0,none,BL,[(.ret,APC)],BO,[],[]⟩
def vo[Lk]:Env:=r9.BC AGZ Yb
theorem vn:A5 Tryz.prog vo:=Row.A2 r9 ACi Tryz.func21 AJa
abbrev AOu:Row:=⟨22,0,0,3,0,none,AV7,[(.ret,AV6)],DF,[(9,[[18],[],[20],[],[7,22],[1],[]])],[(0,ATJ,ATI)]⟩
def ARc[Lk]:Env:=AOu.BC vo AOv
theorem ALW:A5 Tryz.prog ARc:=Row.A2 AOu vn Tryz.func22 AEf
abbrev rp:Row:=⟨18,0,0,1,0,none,dR,[(.ret,LI)],BO,[],[(0,AJR,Mg)]⟩
def vi[Lk]:Env:=rp.BC ARc On
theorem vh:A5 Tryz.prog vi:=Row.A2 rp ALW Tryz.func18 eX
abbrev eU:Row:=⟨10,0,0,2,0,none,Wq,[(.ret,Wp)],BO,[],[(0,AAP,S_)]⟩
def gu[Lk]:Env:=eU.BC vi K7
theorem nH:A5 Tryz.prog gu:=Row.A2 eU vh Tryz.func10 Ol
abbrev AEe:Row:=⟨69,0,0,2,0,none,ATH,[(.ret,BG)],A6,[],[]⟩
def AGE[Lk]:Env:=AEe.BC gu rk
theorem ACN:A5 Tryz.prog AGE:=Row.A2 AEe nH Tryz.func69 AOt
abbrev ACp:Row:=⟨67,0,0,0,0,none,ACn,[(.ret,ARt)],ARs,[],[]⟩
def AFn[Lk]:Env:=ACp.BC AGE nw
theorem ABv:A5 Tryz.prog AFn:=Row.A2 ACp ACN Tryz.func67 nv
end
end Go.Pev
end
section
namespace Go.Pev
open Go.Proofs
noncomputable section
abbrev eh:Row:=⟨16,0,0,2,0,none,AJf,[(.ret,BG)],A6,[],[]⟩
def gw[Lk]:Env:=eh.BC AFn Qi
theorem nI:A5 Tryz.prog gw:=Row.A2 eh ABv Tryz.func16 Yg
abbrev ff:Row:=⟨15,0,0,0,0,none,ACn,[(.ret,BG)],A6,[(6,[[28],[],[],[],[],[48,50],[],[],[],[],[],[67],[69]]),(3,[[8],[],[],[10,12],[],[],[],[],[],[29],[],[]])],[]⟩
def iG[Lk]:Env:=ff.BC gw Q9
theorem nY:A5 Tryz.prog iG:=Row.A2 ff nI Tryz.func15 ZP
abbrev Ny:Row:=⟨4,0,0,3,0,none,Jg,[(.ret,BG)],A6,[],[(0,YS,YF)]⟩
def bk[Lk]:Env:=Ny.BC iG Di
theorem Sx:A5 Tryz.prog bk:=Row.A2 Ny nY Tryz.func4 ML
end
end Go.Pev
end
section

end
