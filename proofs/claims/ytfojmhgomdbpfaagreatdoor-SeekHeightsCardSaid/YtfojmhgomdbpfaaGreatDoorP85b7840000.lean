/- A part of the proofs of this seat: U29j U29k U29l PevClip G29fP1 G29fP2 G29fP3 G29fP4 G29fP5 G29fP6 G29fP7 G29fP8 G29fP9 G29fP10 G29fP11 G29fP. -/
import Derived.Test.YtfojmhgomdbpfaaGreatDoorP131c54f130
import Derived.Test.YtfojmhgomdbpfaaGreatDoorProg
set_option linter.unusedVariables false
set_option linter.unusedSimpArgs false
set_option linter.unusedSectionVars false
set_option maxRecDepth 100000
section
namespace Go.Pev.Pl
theorem Ps(xs:List Int)(hs:xs.length≤4294967296):QS (xs,xs,())=some (true,()):=by
 rw[AHX,SB]
 simp only[Bd,AjT]
 have e:=AE9 (step:=GC) (fun k=>(xs,xs,(xs.length:Int),(k:Int),())) xs.length (.inr (.inl ())) (by omega)
  (fun k hk=>by
   unfold GC
   dsimp only
   rw[AL,AjG hk]
   simp only[Bs 0 hk,Bd,AjT]
   rw[AM (by omega)])
  (by unfold GC;dsimp only;rw[AL,AjF (by omega)])
 have e':AS GC many (xs,xs,AG xs,(0:Int),())=_:=e
 simp only[e']
theorem AYQ(xs:List (List Int))(hs:xs.length≤4294967296)(hi:∀ x∈xs,x.length≤4294967296):SF (xs,xs,())=some (true,()):=by
 rw[ADK,Od]
 simp only[Bd,AjT]
 have e:=AE9 (step:=EW) (fun k=>(xs,xs,(xs.length:Int),(k:Int),())) xs.length (.inr (.inl ())) (by omega)
  (fun k hk=>by
   have hx:xs[k]? = some xs[k]:=AjM hk
   unfold EW
   dsimp only
   rw[AL,AjG hk]
   simp only[Ae hx,Ps _ (hi _ (AkY hk)),AjT]
   rw[AM (by omega)])
  (by unfold EW;dsimp only;rw[AL,AjF (by omega)])
 have e':AS EW many (xs,xs,AG xs,(0:Int),())=_:=e
 simp only[e']
theorem AEQ(H:List Int)(n:Nat):(NX H n).length=n:=by unfold NX;simp
theorem AER(H:List Int){n i:Nat}(hi:i<n):(NX H n)[i]? = some (nxL H n i):=by
 unfold NX
 rw[Ajq,Akl hi]
 rfl
theorem AfC{H:List Int}{n:Nat}(ho:HO H n){x:List Int}(hx:x∈NX H n):x.length≤8:=by
 unfold NX at hx
 obtain⟨i,hi,rfl⟩:=Aja.1 hx
 rw[AkB]at hi
 have:=ho.hAt hi
 unfold nxL
 rw[Aj6,AjY]
 unfold hAt at this
 omega
theorem AMx{toks H:List Int}{n:Nat}(hn:toks.length=n)(ho:HO H n):AAb ((toks,(H,(NX H n,()))),(toks,(H,(NX H n,()))),())=some (true,()):=by
 have ht:=ho.top
 have hl:=ho.len
 have h1:=QI toks toks (by omega)
 have h2:=QI H H (by omega)
 have h3:=NO (NX H n) (NX H n) (by rw[AEQ];omega) (fun x hx=>by have:=AfC ho hx;omega)
 rw[AjG rfl]at h1 h2 h3
 rw[AGh,RJ]
 simp only[h1,h2,h3]
theorem ALz{toks H:List Int}{n:Nat}(hn:toks.length=n)(ho:HO H n):ZW ((toks,(H,(NX H n,()))),(toks,(H,(NX H n,()))),())=some (true,()):=by
 have ht:=ho.top
 have hl:=ho.len
 rw[AGA,Qw]
 simp only[Ps toks (by omega),Ps H (by omega),AYQ (NX H n) (by rw[AEQ];omega) (fun x hx=>by have:=AfC ho hx;omega)]
theorem AQs{toks H:List Int}{n:Nat}(hr:Rt toks)(hn:toks.length=n)(ho:HO H n):Qx ((toks,(H,(NX H n,()))),())=some (true,()):=by
 rw[ZX,OB]
 simp only[W8 hr hn ho,Bd,ALz hn ho]
theorem ASE{toks H:List Int}{n:Nat}(hr:Rt toks)(hn:toks.length=n)(ho:HO H n):RU ((toks,(H,(NX H n,()))),())=some (true,()):=by
 rw[AAw,OL]
 simp only[AQK hr hn ho,Bd,AMx hn ho]
structure WO(w:List Int)(n:Nat):Prop where
 len:w.length=n
 rng:∀ x∈w,0≤x∧x≤1
theorem WO.at{w:List Int}{n:Nat}(h:WO w n)(i:Nat):0≤w.getD i 0∧w.getD i 0≤1:=by
 rw[AjI]
 cases hx:w[i]? with
 |none=>simp
 |some x=>exact h.rng x (AjW hx)
def pre(w:List Int):Nat→Int
 |0=>0
 |j+1=>pre w j+w.getD j 0
def KJ(w:List Int)(n i:Nat):Nat→Int
 |0=>0
 |d+1=>KJ w n i d+w.getD ((i+d) % n) 0
theorem RY{w:List Int}{n:Nat}(h:WO w n):∀ j,0≤pre w j∧pre w j≤(j:Int)
 |0=>by simp[pre]
 |j+1=>by
  have:=RY h j
  have:=h.at j
  rw[pre]
  omega
theorem AMU{w:List Int}{n:Nat}(h:WO w n)(i:Nat):∀ d,0≤KJ w n i d∧KJ w n i d≤(d:Int)
 |0=>by simp[KJ]
 |d+1=>by
  have:=AMU h i d
  have:=h.at ((i+d) % n)
  rw[KJ]
  omega
theorem Abp(w:List Int){n i:Nat}(hi:i<n):∀ d,d≤n→KJ w n i d=if i+d≤n then pre w (i+d)-pre w i else pre w n-pre w i+pre w (i+d-n):=by
 intro d
 induction d with
 |zero=>intro _;rw[AjP (by omega)];simp[KJ]
 |succ d ih=>
  intro hd
  rw[KJ,ih (by omega),IF (by omega)]
  by_cases h1:i+d<n
  ·rw[AjP (by omega),AjP h1,AjP (by omega),← Al4,pre]
   omega
  ·by_cases h2:i+d=n
   ·rw[AjP (by omega),AjQ h1,AjQ (by omega),show i+(d+1)-n=0+1 by omega,show i+d-n=0 by omega,h2]
    simp only[pre]
    omega
   ·rw[AjQ (by omega),AjQ h1,AjQ (by omega),show i+(d+1)-n=i+d-n+1 by omega,pre]
    omega
def AQl(w:List Int)(n i:Nat)(to:Nat):Int:=if to≤i then pre w to-pre w i+pre w n else pre w to-pre w i
theorem Aa7(w:List Int){n i d:Nat}(hi:i<n)(h1:1≤d)(hd:d≤n):AQl w n i ((i+d) % n)=KJ w n i d:=by
 rw[Abp w hi d hd,IF (by omega)]
 unfold AQl
 by_cases q1:i+d<n
 ·rw[AjP q1,AjQ (by omega),AjP (by omega)]
 ·rw[AjQ q1]
  by_cases q2:i+d=n
  ·rw[AjP (by omega),AjP (by omega),show i+d-n=0 by omega,q2,pre]
   omega
  ·rw[AjP (by omega),AjQ (by omega)]
   omega
def smL(w H:List Int)(n i:Nat):List Int:=(List.range (hAt H i)).map fun h=>KJ w n i (kst H n i h)
def SM(w H:List Int)(n:Nat):List (List Int):=(List.range n).map (smL w H n)
theorem Ahp{w toks H:List Int}{n:Nat}(hw:WO w n)(ho:HO H n)(d5:List (List Int))(d7:List Int){i h:Nat}(hi:i<n)(hh:h<hAt H i):
  AS Eb many (w,toks,H,NX H n,(n:Int),d5,(i:Int),d7,(h:Int),w.getD i 0,(((i+1) % n:Nat):Int),())=some (.inl (w,toks,H,NX H n,(n:Int),d5,(i:Int),d7,(h:Int),KJ w n i (kst H n i h),())):=by
 have hp:=ho.pos
 have ht:=ho.top
 have hl:=hw.len
 obtain⟨q1,q2,q3⟩:=ho.hAt hi
 obtain⟨k1,k2,k3,k4⟩:=NP (H:=H) (h:=h) hp hi (by omega)
 have hrow:idx (nxL H n i) (h:Int)=some (((i+kst H n i h) % n:Nat):Int):=by
  rw[Rv]
  unfold nxL
  rw[Ajq,Akl (by unfold hAt at hh;exact hh)]
  rfl
 generalize kst H n i h=d at *
 have key:=AE9 (step:=Eb) (fun k=>(w,toks,H,NX H n,(n:Int),d5,(i:Int),d7,(h:Int),KJ w n i (k+1),(((i+(k+1)) % n:Nat):Int),())) (d-1) (.inl (w,toks,H,NX H n,(n:Int),d5,(i:Int),d7,(h:Int),KJ w n i d,())) (by omega)
  (fun k hk=>by
   have hm1:(i+(k+1)) % n<n:=Ak6 _ hp
   have hne:(i+(k+1)) % n≠(i+d) % n:=by
    rw[IF (by omega),IF (by omega)]
    split<;>split<;>omega
   have hs:=AMU hw i (k+1)
   have hwk:=hw.at ((i+(k+1)) % n)
   unfold Eb
   dsimp only
   simp only[Ae (AER H hi),hrow,AKa]
   rw[AjF hne]
   simp only[Aj2,Bs (xs:=w) 0 (show(i+(k+1)) % n<w.length by omega)]
   rw[AM (by omega),EH hp]
   simp only
   rw[Ai (by omega),Nat.mod_add_mod]
   rfl)
  (by
   rw[show d-1+1=d by omega]
   unfold Eb
   dsimp only
   simp only[Ae (AER H hi),hrow,Bd]
   rfl)
 have e0:KJ w n i (0+1)=w.getD i 0:=by
  simp only[KJ,Akc,AkM hi]
  omega
 rw[e0,AkI]at key
 exact key
theorem Ahq{w toks H:List Int}{n:Nat}(hw:WO w n)(ho:HO H n)(d5:List (List Int)){i:Nat}(hi:i<n):
  AS Di many (w,toks,H,NX H n,(n:Int),d5,(i:Int),([]:List Int),(0:Int),())=some (.inl (w,toks,H,NX H n,(n:Int),d5,(i:Int),smL w H n i,())):=by
 have hp:=ho.pos
 have ht:=ho.top
 have hl:=hw.len
 obtain⟨q1,q2,q3⟩:=ho.hAt hi
 have hlen:(nxL H n i).length=hAt H i:=by unfold nxL hAt;simp
 have e:=Bn (step:=Di) (fun h (a:List Int)=>(w,toks,H,NX H n,(n:Int),d5,(i:Int),a,(h:Int),())) (List.range (hAt H i)) (fun h a=>.inl (a++[KJ w n i (kst H n i h)])) (fun a=>.inl (w,toks,H,NX H n,(n:Int),d5,(i:Int),a,())) (fun j a=>a.length≤j) (by rw[AjY];omega)
  (fun j x a hj hx ha=>by
   refine⟨fun m' h' => ?_,fun r h'=>(by cases h')⟩
   cases h'
   obtain⟨rfl,hjm⟩:=H4 hx
   constructor
   ·unfold Di
    dsimp only
    simp only[Ae (AER H hi),AK,hlen]
    rw[AL,AjG hjm]
    simp only[Bs (xs:=w) 0 (show i<w.length by omega)]
    rw[AM (by omega),EH hp]
    simp only[Ahp hw ho d5 a hi hjm]
    rw[BK (by simp only[Aj8];omega),AM (by omega)]
    rfl
   ·simp;omega)
  (fun a _=>by
   rw[AjY]
   unfold Di
   dsimp only
   simp only[Ae (AER H hi),AK,hlen]
   rw[AL,AjF (by omega)]) [] (AjO _)
 have e':AS Di many (w,toks,H,NX H n,(n:Int),d5,(i:Int),([]:List Int),(0:Int),())=_:=e
 rw[e',A0 (fun(h:Nat) (a:List Int)=>a++[KJ w n i (kst H n i h)])]
 have hf:∀ (xs:List Nat) (a:List Int),xs.foldl (fun a h=>a++[KJ w n i (kst H n i h)]) a=a++xs.map fun h=>KJ w n i (kst H n i h):=by
  intro xs
  induction xs with
  |nil=>intro a;simp
  |cons x xs ih=>intro a;rw[Ajt,ih];simp
 rw[hf]
 rfl
theorem AQI{w toks H:List Int}{n:Nat}(hr:Rt toks)(hn:toks.length=n)(hw:WO w n)(ho:HO H n):SY ((toks,(H,(NX H n,()))),w,())=some (SM w H n,0,()):=by
 have hp:=ho.pos
 have ht:=ho.top
 have hl:=hw.len
 rw[ADy,Oj]
 simp only[ASE hr hn ho,AjT,AK,hn,hl,Bd]
 have e0:=AE9 (step:=Ed) (fun k=>(w,toks,H,NX H n,(n:Int),(k:Int),())) n (.inr (.inl (w,toks,H,NX H n,(n:Int),()))) (by omega)
  (fun k hk=>by
   have hb:=hw.at k
   have hm:AOp (w.getD k 0,())=some (true,()):=by
    rw[AOo,ZA,Ar,Ar,AjG (by omega),AjG (by omega)]
   unfold Ed
   dsimp only
   rw[AL,AjG hk]
   simp only[Bs (xs:=w) 0 (show k<w.length by omega),hm,AjT]
   rw[AM (by omega)])
  (by unfold Ed;dsimp only;rw[AL,AjF (by omega)])
 have e0':AS Ed many (w,toks,H,NX H n,(n:Int),(0:Int),())=_:=e0
 simp only[e0']
 have e:=Bn (step:=Ec) (fun i (a:List (List Int))=>(w,toks,H,NX H n,(n:Int),a,(i:Int),())) (List.range n) (fun i a=>.inl (a++[smL w H n i])) (fun a=>.inl (a,())) (fun j a=>a.length≤j) (by rw[AjY];omega)
  (fun j x a hj hx ha=>by
   refine⟨fun m' h' => ?_,fun r h'=>(by cases h')⟩
   cases h'
   obtain⟨rfl,hjm⟩:=H4 hx
   constructor
   ·unfold Ec
    dsimp only
    rw[AL,AjG hjm]
    simp only[Ahq hw ho a hjm]
    rw[BK (by simp only[AK,Aj8];omega),AM (by omega)]
    rfl
   ·simp;omega)
  (fun a _=>by
   rw[AjY]
   unfold Ec
   dsimp only
   rw[AL,AjF (by omega)]) [] (AjO _)
 have e':AS Ec many (w,toks,H,NX H n,(n:Int),([]:List (List Int)),(0:Int),())=_:=e
 simp only[e']
 rw[A0 (fun(i:Nat) (a:List (List Int))=>a++[smL w H n i])]
 have hf:∀ (xs:List Nat) (a:List (List Int)),xs.foldl (fun a i=>a++[smL w H n i]) a=a++xs.map (smL w H n):=by
  intro xs
  induction xs with
  |nil=>intro a;simp
  |cons x xs ih=>intro a;rw[Ajt,ih];simp
 rw[hf]
 rfl
def RZ(w:List Int)(n:Nat):List Int:=(List.range (n+1)).map (pre w)
theorem H6(w:List Int){n j:Nat}(h:j≤n):(RZ w n)[j]? = some (pre w j):=by
 unfold RZ
 rw[Ajq,Akl (by omega)]
 rfl
theorem Acf(w:List Int)(n:Nat):(RZ w n).length=n+1:=by unfold RZ;simp
theorem Ain{w:List Int}{n:Nat}(hw:WO w n)(hn:n≤1000)(T H:List Int)(M:List (List Int))(z:Int):
  AS Eo many (T,H,M,z,List.replicate (n+1) (0:Int),w,(n:Int),(0:Int),())=some (.inl (T,H,M,z,RZ w n,())):=by
 have hl:=hw.len
 have e:=Bn (step:=Eo) (fun i (A:List Int)=>(T,H,M,z,A,w,(n:Int),(i:Int),())) (List.range n) (fun k A=>.inl (A.set (k+1) (A.getD k 0+w.getD k 0))) (fun A=>.inl (T,H,M,z,A,())) (fun k A=>A.length=n+1∧∀ j,A.getD j 0=if j≤k then pre w j else 0) (by rw[AjY];omega)
  (fun k x A hk hx hA=>by
   refine⟨fun m' h' => ?_,fun r h'=>(by cases h')⟩
   cases h'
   obtain⟨rfl,hkm⟩:=H4 hx
   obtain⟨a1,a2⟩:=hA
   have p1:=RY hw x
   have p2:=hw.at x
   have a3:=a2 x
   rw[AjP (AjO x)]at a3
   constructor
   ·unfold Eo
    dsimp only
    rw[AL,AjG hkm,AM (by omega)]
    simp only[Bs (xs:=w) 0 (show x<w.length by omega),Bs (xs:=A) 0 (show x<A.length by omega),Bs (xs:=A) 0 (show x+1<A.length by omega),GG,Nj]
    rw[a3,Ai (by omega)]
   ·refine⟨by rw[AkL];exact a1,fun j => ?_⟩
    rw[AjI,Ak0]
    by_cases hj:x+1=j
    ·subst hj
     rw[AjP rfl,AjP (by omega),AjP (AjO _),a3]
     rfl
    ·rw[AjQ hj,← AjI,a2]
     by_cases h2:j≤x
     ·rw[AjP h2,AjP (by omega)]
     ·rw[AjQ h2,AjQ (by omega)])
  (fun A _=>by
   rw[AjY]
   unfold Eo
   dsimp only
   rw[AL,AjF (by omega)]) (List.replicate (n+1) 0) ⟨by simp,fun j=>by
    by_cases h:j≤0
    ·rw[AjP h,show j=0 by omega,pre]
     simp
    ·rw[AjQ h,AjI,Akr]
     split<;>rfl⟩
 have hT:=foldI (fun k (A:List Int)=>A.set (k+1) (A.getD k 0+w.getD k 0)) (fun k A=>A.length=n+1∧∀ j,A.getD j 0=if j≤k then pre w j else 0) n (List.replicate (n+1) 0) (fun x A hkm hA=>by
  obtain⟨a1,a2⟩:=hA
  have a3:=a2 x
  rw[AjP (AjO x)]at a3
  refine⟨by rw[AkL];exact a1,fun j => ?_⟩
  rw[AjI,Ak0]
  by_cases hj:x+1=j
  ·subst hj
   rw[AjP rfl,AjP (by omega),AjP (AjO _),a3]
   rfl
  ·rw[AjQ hj,← AjI,a2]
   by_cases h2:j≤x
   ·rw[AjP h2,AjP (by omega)]
   ·rw[AjQ h2,AjQ (by omega)]) ⟨by simp,fun j=>by
    by_cases h:j≤0
    ·rw[AjP h,show j=0 by omega,pre]
     simp
    ·rw[AjQ h,AjI,Akr]
     split<;>rfl⟩
 have e':AS Eo many (T,H,M,z,List.replicate (n+1) (0:Int),w,(n:Int),(0:Int),())=_:=e
 rw[e',A0 (fun(k:Nat) (A:List Int)=>A.set (k+1) (A.getD k 0+w.getD k 0))]
 have:(List.range n).foldl (fun A k=>A.set (k+1) (A.getD k 0+w.getD k 0)) (List.replicate (n+1) 0)=RZ w n:=by
  refine Bv 0 ?_ fun j hj => ?_
  ·rw[hT.1,Acf]
  ·rw[hT.1]at hj
   rw[hT.2 j,AjP (by omega),AjI,H6 w (by omega)]
   rfl
 rw[this]
def AM6(w:List Int)(n i:Nat)(M:List (List Int))(to:Nat):List (List Int):=M.set i (M.getD i []++[AQl w n i to])
theorem AYV(w:List Int)(n i:Nat):∀ (l:List Nat) (M:List (List Int)),i<M.length→l.foldl (AM6 w n i) M=M.set i (M.getD i []++l.map (AQl w n i)):=by
 intro l
 induction l with
 |nil=>
  intro M hi
  rw[List.foldl_nil,AlA,AkS]
  refine Bv ([]:List Int) (by simp) fun j hj => ?_
  rw[AjI (l:=M.set _ _),Ak0]
  by_cases h:i=j
  ·subst h;rw[AjP rfl,AjP hi];rfl
  ·rw[AjQ h,← AjI]
 |cons x l ih=>
  intro M hi
  rw[Ajt,ih _ (by unfold AM6;rw[AkL];exact hi)]
  unfold AM6
  rw[List.set_set,AjI (l:=M.set _ _),Ak0,AjP rfl,AjP hi]
  simp
def nxN(H:List Int)(n i:Nat):List Nat:=(List.range (hAt H i)).map fun h=>(i+kst H n i h) % n
theorem Y9(H:List Int)(n i:Nat):nxL H n i=(nxN H n i).map fun(k:Nat)=>(k:Int):=by
 unfold nxL nxN hAt
 rw[AmC]
 rfl
theorem AiF{H:List Int}{n i:Nat}(hn:0<n):∀ x∈nxN H n i,x<n:=by
 intro x hx
 obtain⟨h,_,rfl⟩:=Aja.1 hx
 exact Ak6 _ hn
theorem Ail{w H:List Int}{n:Nat}(hw:WO w n)(ho:HO H n)(M:List (List Int))(hM:M.length=n)(hE:∀ x∈M,x.length≤8)(hz:∀ i,M.getD i []=[]∨True)(d4:List (List Int))(d5:Int){i:Nat}(hi:i<n)(h0:M.getD i []=[]):
  AS Em many ((n:Int),RZ w n,M,(i:Int),d4,d5,(i:Int),nxL H n i,AG (nxL H n i),(0:Int),())=some (.inl ((n:Int),RZ w n,M.set i ((nxN H n i).map (AQl w n i)),d4,d5,(i:Int),())):=by
 have hp:=ho.pos
 have ht:=ho.top
 obtain⟨q1,q2,q3⟩:=ho.hAt hi
 have hlen:(nxN H n i).length=hAt H i:=by unfold nxN;simp
 have e:=Bn (step:=Em) (fun h (M:List (List Int))=>((n:Int),RZ w n,M,(i:Int),d4,d5,(i:Int),nxL H n i,AG (nxL H n i),(h:Int),())) (nxN H n i) (fun to M=>.inl (AM6 w n i M to)) (fun M=>.inl ((n:Int),RZ w n,M,d4,d5,(i:Int),())) (fun j M=>M.length=n∧(M.getD i []).length≤j) (by omega)
  (fun j to M hj hx hM=>by
   refine⟨fun m' h' => ?_,fun r h'=>(by cases h')⟩
   cases h'
   obtain⟨m1,m2⟩:=hM
   have hto:=AiF hp to (AjW hx)
   have hxi:(nxL H n i)[j]? = some (to:Int):=by rw[Y9,Ajq,hx];rfl
   have p1:=RY hw to
   have p2:=RY hw i
   have p3:=RY hw n
   constructor
   ·unfold Em
    dsimp only
    rw[AK,Y9,Aj6,AL,AjG hj,← Y9]
    simp only[Ae hxi,Ae (H6 w (show to≤n by omega)),Ae (H6 w (show i≤n by omega)),Ae (H6 w (AjO n)),Bs (xs:=M) ([]:List Int) (show i<M.length by omega)]
    simp only[Kg (H6 w (show to≤n by omega)),Kg (H6 w (show i≤n by omega)),Kg (H6 w (AjO n)),GG,Nj,Bd,AkP]
    rw[DA,Ai (n:=pre w to-pre w i) (by omega),Ai (n:=pre w to-pre w i+pre w n) (by omega),AM (by omega)]
    have hfit:∀ z:Int,fits (AG (M.getD i [])+AG [z])=true:=fun z=>BK (by simp only[AK,Aj8];omega)
    have hix:∀ z:List Int,∃ y,idx (M.set i z) (i:Int)=some y:=fun z=>Ad2 (by rw[AkL];omega)
    unfold AM6 AQl
    by_cases hc:to≤i
    ·obtain⟨y,hy⟩:=hix (A2 (M.getD i []) [pre w to-pre w i+pre w n])
     rw[AjG hc,AjP hc]
     simp only[hfit,hy]
     rfl
    ·obtain⟨y,hy⟩:=hix (A2 (M.getD i []) [pre w to-pre w i])
     rw[AjF hc,AjQ hc]
     simp only[hfit,hy]
     rfl
   ·unfold AM6
    refine⟨by rw[AkL];exact m1,?_⟩
    rw[AjI (l:=M.set _ _),Ak0,AjP rfl,AjP (by omega)]
    simp only[Ajn,AjS,Aj8]
    omega)
  (fun M _=>by
   unfold Em
   dsimp only
   rw[AK,Y9,Aj6,AL,AjF (by omega)]) M ⟨hM,by rw[h0];simp⟩
 have e':AS Em many ((n:Int),RZ w n,M,(i:Int),d4,d5,(i:Int),nxL H n i,AG (nxL H n i),(0:Int),())=_:=e
 rw[e',A0 (fun(to:Nat) (M:List (List Int))=>AM6 w n i M to)]
 have:=AYV w n i (nxN H n i) M (by omega)
 rw[h0,Ajs]at this
 have h2:(nxN H n i).foldl (fun M to=>AM6 w n i M to) M=_:=this
 rw[h2]
theorem AcQ(w:List Int){H:List Int}{n i:Nat}(ho:HO H n)(hi:i<n):(nxN H n i).map (AQl w n i)=smL w H n i:=by
 unfold nxN smL
 rw[AmC]
 refine List.map_congr_left fun h hh => ?_
 rw[AkB]at hh
 obtain⟨_,_,q3⟩:=ho.hAt hi
 obtain⟨k1,k2,_⟩:=NP (H:=H) (h:=h) ho.pos hi (by omega)
 exact Aa7 w hi k1 k2
theorem Aim{w H:List Int}{n:Nat}(hw:WO w n)(ho:HO H n):
  AS En many ((n:Int),RZ w n,List.replicate n ([]:List Int),NX H n,AG (NX H n),(0:Int),())=some (.inl (SM w H n,())):=by
 have hp:=ho.pos
 have ht:=ho.top
 have inv0:(List.replicate n ([]:List Int)).length=n∧(∀ x∈List.replicate n ([]:List Int),x.length≤8)∧(∀ k',k'<0→(List.replicate n ([]:List Int)).getD k' []=smL w H n k')∧∀ k',0≤k'→(List.replicate n ([]:List Int)).getD k' []=[]:=by
  refine⟨by simp,fun x hx => ?_,fun k' h=>by omega,fun k' _ => ?_⟩
  ·rw[List.mem_replicate]at hx
   rw[hx.2];simp
  ·rw[AjI,Akr]
   split<;>rfl
 have hlenS:∀ i,i<n→(smL w H n i).length≤8:=fun i hi=>by
  have:=ho.hAt hi
  unfold smL
  rw[Aj6,AjY]
  omega
 have stepI:∀ (k:Nat) (M:List (List Int)),k<n→(M.length=n∧(∀ x∈M,x.length≤8)∧(∀ k',k'<k→M.getD k' []=smL w H n k')∧∀ k',k≤k'→M.getD k' []=[]) →
   ((M.set k (smL w H n k)).length=n∧(∀ x∈M.set k (smL w H n k),x.length≤8)∧(∀ k',k'<k+1→(M.set k (smL w H n k)).getD k' []=smL w H n k')∧∀ k',k+1≤k'→(M.set k (smL w H n k)).getD k' []=[]):=by
  intro k M hk ⟨m1,m2,m3,m4⟩
  refine⟨by rw[AkL];exact m1,fun x hx => ?_,fun k' h => ?_,fun k' h => ?_⟩
  ·rcases Al7 hx with h|rfl
   ·exact m2 x h
   ·exact hlenS k hk
  ·rw[AjI,Ak0]
   by_cases e:k=k'
   ·subst e;rw[AjP rfl,AjP (by omega)];rfl
   ·rw[AjQ e,← AjI];exact m3 k' (by omega)
  ·rw[AjI,Ak0,AjQ (by omega),← AjI]
   exact m4 k' (by omega)
 have e:=Bn (step:=En) (fun i (M:List (List Int))=>((n:Int),RZ w n,M,NX H n,AG (NX H n),(i:Int),())) (List.range n) (fun k M=>.inl (M.set k (smL w H n k))) (fun M=>.inl (M,())) (fun k M=>M.length=n∧(∀ x∈M,x.length≤8)∧(∀ k',k'<k→M.getD k' []=smL w H n k')∧∀ k',k≤k'→M.getD k' []=[]) (by rw[AjY];omega)
  (fun k x M hk hx hM=>by
   refine⟨fun m' h' => ?_,fun r h'=>(by cases h')⟩
   cases h'
   obtain⟨rfl,hkm⟩:=H4 hx
   refine⟨?_,stepI x M hkm hM⟩
   obtain⟨m1,m2,m3,m4⟩:=hM
   unfold En
   dsimp only
   rw[AK,AEQ,AL,AjG hkm]
   simp only[Ae (AER H hkm)]
   rw[Ail hw ho M m1 m2 (fun _=>.inr trivial) (NX H n) (n:Int) hkm (m4 x (AjO x)),AcQ w ho hkm]
   simp only
   rw[AM (by omega)])
  (fun M _=>by
   rw[AjY]
   unfold En
   dsimp only
   rw[AK,AEQ,AL,AjF (by omega)]) (List.replicate n []) inv0
 have hT:=foldI (fun k (M:List (List Int))=>M.set k (smL w H n k)) (fun k M=>M.length=n∧(∀ x∈M,x.length≤8)∧(∀ k',k'<k→M.getD k' []=smL w H n k')∧∀ k',k≤k'→M.getD k' []=[]) n (List.replicate n []) stepI inv0
 have e':AS En many ((n:Int),RZ w n,List.replicate n ([]:List Int),NX H n,AG (NX H n),(0:Int),())=_:=e
 rw[e',A0 (fun(k:Nat) (M:List (List Int))=>M.set k (smL w H n k))]
 have:(List.range n).foldl (fun M k=>M.set k (smL w H n k)) (List.replicate n [])=SM w H n:=by
  obtain⟨t1,_,t3,_⟩:=hT
  refine Bv ([]:List Int) ?_ fun j hj => ?_
  ·rw[t1];unfold SM;simp
  ·rw[t1]at hj
   rw[t3 j hj]
   unfold SM
   rw[AjI,Ajq,Akl hj]
   rfl
 rw[this]
theorem Yl{w:List Int}{n:Nat}(hw:WO w n)(ht:n≤1000):FV (w,())=some (false,()):=by
 have hl:=hw.len
 have e:=AE9 (step:=CP) (fun k=>(w,(n:Int),(k:Int),())) n (.inr (.inl ())) (by omega)
  (fun k hk=>by
   have:=hw.at k
   unfold CP
   dsimp only
   rw[AL,AjG hk]
   simp only[Bs (xs:=w) 0 (show k<w.length by omega),Ag]
   rw[AjF (by omega),AjF (by omega),AM (by omega)])
  (by unfold CP;dsimp only;rw[AL,AjF (by omega)])
 rw[MW,FU,Nc,Gg,AK,hl]
 have e':AS CP many (w,(n:Int),(0:Int),())=_:=e
 simp only[e',Ar]
 rfl
theorem AR1{w toks H:List Int}{n:Nat}(hr:Rt toks)(hn:toks.length=n)(hw:WO w n)(ho:HO H n):AAW ((toks,(H,(NX H n,()))),w,())=some (SM w H n,0,()):=by
 have hp:=ho.pos
 have ht:=ho.top
 have hl:=hw.len
 have f1:D6 ((n+1:Nat):Int)=true:=(E1 _).2 (by omega)
 have f2:D6 (n:Int)=true:=(E1 _).2 (by omega)
 have hN:=AEQ H n
 rw[AGg,RI]
 simp only[AK,hn,hl,Bd,AjT,AQs hr hn ho,Yl hw ht]
 rw[AM (by omega)]
 simp only[f1,DA,AjO,AjV,AkP,GF,AK2,Ain hw ht]
 have e1:=Aim hw ho
 rw[AK]at e1
 simp only[f2,e1,AkP]
end Go.Pev.Pl
end
section
namespace Go.Pev.Pl
def wL(bs:List Bool):List Int:=bs.map fun b=>if b=true then 1 else 0
theorem AhR(bs:List Bool):WO (wL bs) bs.length:=⟨by unfold wL;simp,fun x hx=>by
 unfold wL at hx
 obtain⟨b,_,rfl⟩:=Aja.1 hx
 cases b<;>simp⟩
def mkF(bs:List Bool)(k:Nat)(A:List Int):List Int:=if bs.getD k false=true then A.set k 1 else A
theorem AgV(bs:List Bool):(List.range bs.length).foldl (fun A k=>mkF bs k A) (List.replicate bs.length 0)=wL bs:=by
 have hT:=foldI (mkF bs) (fun k A=>A.length=bs.length∧∀ j,A.getD j 0=if j<k∧bs.getD j false=true then 1 else 0) bs.length (List.replicate bs.length 0) (fun k A hk hA=>by
  obtain⟨a1,a2⟩:=hA
  unfold mkF
  by_cases hb:bs.getD k false=true
  ·rw[AjP hb]
   refine⟨by rw[AkL];exact a1,fun j => ?_⟩
   rw[AjI,Ak0]
   by_cases e:k=j
   ·subst e
    rw[AjP rfl,AjP (by omega),AjP ⟨by omega,hb⟩]
    rfl
   ·rw[AjQ e,← AjI,a2]
    by_cases h2:j<k∧bs.getD j false=true
    ·rw[AjP h2,AjP ⟨by omega,h2.2⟩]
    ·rw[AjQ h2,AjQ (fun q=>h2 ⟨by omega,q.2⟩)]
  ·rw[AjQ hb]
   refine⟨a1,fun j => ?_⟩
   rw[a2]
   by_cases h2:j<k∧bs.getD j false=true
   ·rw[AjP h2,AjP ⟨by omega,h2.2⟩]
   ·rw[AjQ h2,AjQ (fun q => ?_)]
    by_cases e:j=k
    ·subst e;exact hb q.2
    ·exact h2 ⟨by omega,q.2⟩) ⟨by simp,fun j=>by
   rw[AjQ (by omega),AjI,Akr]
   split<;>rfl⟩
 refine Bv 0 ?_ fun j hj => ?_
 ·rw[hT.1];unfold wL;simp
 ·rw[hT.1]at hj
  rw[hT.2 j]
  unfold wL
  rw[AjI (l:=List.map _ _),Ajq]
  have:bs[j]? = some (bs.getD j false):=by
   rw[AjI,AjM hj]
   rfl
  rw[this]
  by_cases hb:bs.getD j false=true
  ·rw[AjP ⟨hj,hb⟩,hb];rfl
  ·have hb':bs.getD j false=false:=by
    cases q:bs.getD j false
    ·rfl
    ·exact absurd q hb
   rw[AjQ (fun q=>hb q.2),hb']
   rfl
section
variable {toks H:List Int} {n:Nat} {bs:List Bool}
theorem ASq(hr:Rt toks)(hn:toks.length=n)(hb:bs.length=n)(ho:HO H n):ABS ((toks,(H,(NX H n,()))),bs,())=some (SM (wL bs) H n,0,()):=by
 have ht:=ho.top
 have f2:D6 ((bs.length:Nat):Int)=true:=(E1 _).2 (by omega)
 rw[AG0,Rd]
 simp only[AK,f2,DA,AjO,AjV,AkP,GF,AK2]
 have e:=Bn (step:=Fs) (fun i (A:List Int)=>(toks,H,NX H n,A,bs,((bs.length:Nat):Int),(i:Int),())) (List.range bs.length) (fun k A=>.inl (mkF bs k A)) (fun A=>.inl (toks,H,NX H n,A,())) (fun k A=>A.length=bs.length) (by rw[AjY];omega)
  (fun k x A hk hx hA=>by
   refine⟨fun m' h' => ?_,fun r h'=>(by cases h')⟩
   cases h'
   obtain⟨rfl,hkm⟩:=H4 hx
   constructor
   ·unfold Fs
    dsimp only
    rw[AL,AjG hkm]
    simp only[Bs (xs:=bs) false hkm,Bs (xs:=A) 0 (show x<A.length by omega),Nj]
    rw[AM (by omega)]
    unfold mkF
    cases bs.getD x false<;>rfl
   ·unfold mkF
    split
    ·rw[AkL];exact hA
    ·exact hA)
  (fun A _=>by
   rw[AjY]
   unfold Fs
   dsimp only
   rw[AL,AjF (by omega)]) (List.replicate bs.length 0) (by simp)
 have e':AS Fs many (toks,H,NX H n,List.replicate bs.length (0:Int),bs,((bs.length:Nat):Int),(0:Int),())=_:=e
 have hw:=AhR bs
 rw[hb]at hw
 simp only[e']
 rw[A0 (fun(k:Nat) (A:List Int)=>mkF bs k A),AgV]
 simp only[AR1 hr hn hw ho]
end
section
variable {N:Nat} {ts:List Tie} {v k:Int} {tks:List Int} {ofm:List (Int×Int)} {outm:RM} {s:List Int}
noncomputable def hL(s tks:List Int):List Int:=tks.map (htF s)
def bL(N:Nat)(ts:List Tie)(k:Int)(tks:List Int):List Bool:=tks.map (IG N (DU ts k))
theorem AhW(h:TR N ts v k tks ofm outm)(hs:U32 s):HO (hL s tks) tks.length:=⟨by unfold hL;simp,List.length_pos_of_mem h.mem,h.rg.1.1,fun x hx=>by
 unfold hL at hx
 obtain⟨t,_,rfl⟩:=Aja.1 hx
 exact Agv hs t⟩
theorem Aey:(bL N ts k tks).length=tks.length:=by unfold bL;simp
theorem Aav(f:Int→Bool):∀ (xs:List Int) (a:List Bool),xs.foldl (fun a x=>a++[f x]) a=a++xs.map f:=by
 intro xs
 induction xs with
 |nil=>intro a;simp
 |cons x xs ih=>intro a;rw[Ajt,ih];simp
abbrev Tw:=(List Int)×(List Int)×(List (List Int))×Unit
noncomputable def twV(s tks:List Int):Tw:=(tks,(hL s tks,(NX (hL s tks) tks.length,())))
noncomputable def smV(N:Nat)(ts:List Tie)(k:Int)(s tks:List Int):List (List Int):=SM (wL (bL N ts k tks)) (hL s tks) tks.length
theorem ARN(h:TR N ts v k tks ofm outm)(hs:U32 s)(hse:seen (((N:Int),(ts,())),v,k,())=some (.inr (.inl ((N:Int),tks,ofm,outm,0,())))):
  Pe (((N:Int),(ts,())),v,k,s,())=some (twV s tks,smV N ts k s tks,0,()):=by
 have ho:=AhW h hs
 have hl:tks.length≤1000:=h.rg.1.1
 have hh:=AEz hs tks hl
 have hb:=W8 h.rg.1 rfl ho
 have e:=Bn (step:=Fh) (fun i (a:List Bool)=>(tks,hL s tks,NX (hL s tks) tks.length,(N:Int),tks,ofm,outm,a,tks,AG tks,(i:Int),())) tks (fun x a=>.inl (a++[IG N (DU ts k) x])) (fun a=>.inl (tks,hL s tks,NX (hL s tks) tks.length,a,())) (fun i a=>a.length≤i) (by omega)
  (fun i x a hi hx ha=>by
   refine⟨fun m' h' => ?_,fun r h'=>(by cases h')⟩
   cases h'
   constructor
   ·unfold Fh
    dsimp only
    rw[AK,AL,AjG hi]
    simp only[Ae hx,P6 h]
    rw[AM (by omega),BK (by simp only[AK,Aj8];omega)]
    rfl
   ·simp;omega)
  (fun a _=>by unfold Fh;dsimp only;rw[AK,AL,AjF (by omega)]) [] (AjO _)
 rw[A0 (fun(x:Int) (a:List Bool)=>a++[IG N (DU ts k) x]),Aav]at e
 have e':AS Fh many (tks,hL s tks,NX (hL s tks) tks.length,(N:Int),tks,ofm,outm,([]:List Bool),tks,AG tks,(0:Int),())=some (.inl (tks,hL s tks,NX (hL s tks) tks.length,bL N ts k tks,())):=e
 have hp:=ASq (bs:=bL N ts k tks) h.rg.1 rfl Aey ho
 unfold hL at hb e' hp
 rw[TW,Mr]
 simp only[hse,Bd,AjT,hh,hb,e',hp]
 rfl
end
def twZ:Tw:=([],([],([],())))
section
variable {n:Int} {ts:List Tie} {v k e:Int}
theorem ARP(he:e=1∨e=10)(h:seen ((n,(ts,())),v,k,())=some (.inl (e,())))(s:List Int):Pe ((n,(ts,())),v,k,s,())=some (twZ,[],e,()):=by
 rw[TW,Mr];simp only[h,AeX he,Aj2];rfl
end
theorem Aic{w H:List Int}{n:Nat}:(SM w H n).length=n:=by unfold SM;simp
theorem Aib{w H:List Int}{n:Nat}(ho:HO H n){x:List Int}(hx:x∈SM w H n):x.length≤8:=by
 unfold SM at hx
 obtain⟨i,hi,rfl⟩:=Aja.1 hx
 rw[AkB]at hi
 have:=ho.hAt hi
 unfold smL
 rw[Aj6,AjY]
 omega
theorem Ahh{s:List Int}(h:wfD (.slice (.int .u32)) s):U32 s:=by
 intro x hx
 have:=h
 simp only[wfD]at this
 have:=this.2 x hx
 exact this
end Go.Pev.Pl
end
section
namespace Go.Pev.Pl
theorem Adj{H:List Int}{n i:Nat}(ho:HO H n)(hi:i<n):kst H n i 0=1:=by
 have hp:=ho.pos
 unfold kst
 have:(List.range n).find? (fun k=>decide (((0:Nat):Int)<H.getD ((i+(k+1)) % n) 0))=some 0:=by
  rw[AmH]
  have:=(ho.at (Ak6 (i+(0+1)) hp)).1
  exact⟨AjG (by omega),by rw[AkB];exact hp,fun j hj=>by omega⟩
 rw[this]
 rfl
theorem AfA(w H:List Int){n i:Nat}(hi:i<n):(SM w H n)[i]? = some (smL w H n i):=by
 unfold SM
 rw[Ajq,Akl hi]
 rfl
theorem AV5{w H:List Int}{n i:Nat}(ho:HO H n)(hi:i<n):idx (smL w H n i) (0:Int)=some (w.getD i 0)∧(smL w H n i).length=hAt H i:=by
 have hh:=ho.hAt hi
 constructor
 ·have:idx (smL w H n i) ((0:Nat):Int)=some (w.getD i 0):=by
   rw[Rv]
   unfold smL
   rw[Ajq,Akl (by omega)]
   simp only[Ak2,Adj ho hi,KJ,Akc,AkM hi]
   rw[Int.zero_add]
  exact this
 ·unfold smL
  rw[Aj6,AjY]
section
variable {toks H w:List Int} {n:Nat}
theorem AEx(hr:Rt toks)(hn:toks.length=n)(hw:WO w n)(ho:HO H n):KD ((toks,(H,(NX H n,()))),SM w H n,())=some (w,()):=by
 have ht:=ho.top
 have hp:=ho.pos
 have hl:=hw.len
 have hS:(SM w H n).length=n:=Aic
 have e:=Bn (step:=Cx) (fun i (a:List Int)=>(SM w H n,toks,H,NX H n,a,(i:Int),())) (List.range n) (fun k a=>.inl (a++[w.getD k 0])) (fun a=>.inr (.inl (SM w H n,toks,H,NX H n,a,()))) (fun k a=>a.length≤k) (by rw[AjY];omega)
  (fun k x a hk hx ha=>by
   refine⟨fun m' h' => ?_,fun r h'=>(by cases h')⟩
   cases h'
   obtain⟨rfl,hkm⟩:=H4 hx
   obtain⟨s1,s2⟩:=AV5 (w:=w) ho hkm
   have hh:=ho.hAt hkm
   constructor
   ·unfold Cx
    dsimp only
    rw[AK,hS,AL,AjG hkm]
    simp only[Ae (AfA w H hkm),AK,s2,s1,An]
    rw[AjF (by omega),BK (by simp only[Aj8];omega),AM (by omega)]
    rfl
   ·simp;omega)
  (fun a _=>by
   rw[AjY]
   unfold Cx
   dsimp only
   rw[AK,hS,AL,AjF (by omega)]) [] (AjO _)
 have hf:∀ (xs:List Nat) (a:List Int),xs.foldl (fun a k=>a++[w.getD k 0]) a=a++xs.map fun k=>w.getD k 0:=by
  intro xs
  induction xs with
  |nil=>intro a;simp
  |cons x xs ih=>intro a;rw[Ajt,ih];simp
 have hwr:(List.range n).map (fun k=>w.getD k 0)=w:=by
  refine Bv 0 (by simp[hl]) fun j hj => ?_
  rw[Aj6,AjY]at hj
  rw[AjI,Ajq,Akl hj]
  rfl
 rw[A0 (fun(k:Nat) (a:List Int)=>a++[w.getD k 0]),hf,hwr]at e
 have e':AS Cx many (SM w H n,toks,H,NX H n,([]:List Int),(0:Int),())=some (.inr (.inl (SM w H n,toks,H,NX H n,w,()))):=e
 have h3:=NO (SM w H n) (SM w H n) (by omega) (fun x hx=>by have:=Aib ho hx;omega)
 rw[AjG rfl]at h3
 rw[Qu,Iv]
 simp only[e',AQI hr hn hw ho,Bd,AjT,h3]
theorem ANB(hr:Rt toks)(hn:toks.length=n)(hw:WO w n)(ho:HO H n):RT ((toks,(H,(NX H n,()))),SM w H n,())=some (true,()):=by
 have ht:=ho.top
 have hp:=ho.pos
 have hl:=hw.len
 have e:=AE9 (step:=ER) (fun k=>(w,(k:Int),())) n (.inr (.inl (w,()))) (by omega)
  (fun k hk=>by
   have hb:=hw.at k
   unfold ER
   dsimp only
   rw[AK,hl,AL,AjG hk]
   simp only[Bs (xs:=w) 0 (show k<w.length by omega),An]
   rw[AM (by omega)]
   by_cases h0:w.getD k 0=0
   ·rw[AjG h0]
    rfl
   ·rw[AjF h0,AjG (show w.getD k 0=1 by omega)]
    rfl)
  (by unfold ER;dsimp only;rw[AK,hl,AL,AjF (by omega)])
 have e':AS ER many (w,(0:Int),())=_:=e
 rw[AAv,OK]
 simp only[AEx hr hn hw ho,e',AK,hl,Ag]
 rw[AjG (by omega)]
def mpL(w:List Int)(n:Nat):List Nat:=(List.range n).filter fun i=>decide (w.getD i 0=1)
theorem APg(hr:Rt toks)(hn:toks.length=n)(hw:WO w n)(ho:HO H n)(m:Nat):Oc ((toks,(H,(NX H n,()))),SM w H n,(0:Int),(m:Int),())=some (((mpL w n).take m).map fun(i:Nat)=>(i:Int),0,()):=by
 have ht:=ho.top
 have hp:=ho.pos
 have e:=Bn (step:=De) (fun i (a:List Int)=>(SM w H n,(0:Int),(m:Int),(n:Int),a,(i:Int),())) (List.range n) (fun x a=>if a.length<m then .inl (if w.getD x 0=1 then a++[(x:Int)]else a)else .inr (.inl (a,()))) (fun a=>.inl (a,())) (fun i a=>a.length≤i) (by rw[AjY];omega)
  (fun i x a hi hx ha=>by
   obtain⟨rfl,hkm⟩:=H4 hx
   obtain⟨s1,_⟩:=AV5 (w:=w) ho hkm
   refine⟨fun m' h' => ?_,fun r h' => ?_⟩
   ·split at h'
    ·rename_i hm
     cases h'
     constructor
     ·unfold De
      dsimp only
      rw[AL,AjG hkm,AK,AL,AjG hm,Int.zero_add,Ai (n:=(x:Int)) (by omega),EH hp,AkM hkm]
      simp only[Ae (AfA w H hkm),s1,An]
      rw[AM (by omega)]
      by_cases h1:w.getD x 0=1
      ·rw[AjG h1,AjP h1,BK (by simp only[AK,Aj8];omega)]
       rfl
      ·rw[AjF h1,AjQ h1]
     ·split
      ·simp;omega
      ·omega
    ·cases h'
   ·split at h'
    ·cases h'
    ·rename_i hm
     cases h'
     unfold De
     dsimp only
     rw[AL,AjG hkm,AK,AL,AjF hm])
  (fun a _=>by
   rw[AjY]
   unfold De
   dsimp only
   rw[AL,AjF (by omega)]) [] (AjO _)
 have key:∀ (xs:List Nat) (a:List Int),walk (ρ:=(List Int×Unit)⊕Unit) (fun x (a:List Int)=>if a.length<m then .inl (if w.getD x 0=1 then a++[(x:Int)]else a)else .inr (.inl (a,()))) (fun a=>.inl (a,())) xs a = .inl (a++((xs.filter fun i=>decide (w.getD i 0=1)).take (m-a.length)).map fun(i:Nat)=>(i:Int),()):=by
  intro xs
  induction xs with
  |nil=>intro a;simp[walk]
  |cons x xs ih=>
   intro a
   rw[walk]
   by_cases hm:a.length<m
   ·rw[AjP hm]
    simp only[ih,AkN]
    by_cases hx:w.getD x 0=1
    ·rw[AjP hx,AjP (AjG hx)]
     have:m-a.length=(m-(a++[(x:Int)]).length)+1:=by simp;omega
     rw[this,List.take_succ_cons]
     simp
    ·rw[AjQ hx,AjQ (by simpa using hx)]
   ·rw[AjQ hm]
    have:m-a.length=0:=by omega
    rw[this]
    simp
 rw[key]at e
 have e':AS De many (SM w H n,(0:Int),(m:Int),(n:Int),([]:List Int),(0:Int),())=some (.inl (((mpL w n).take m).map fun(i:Nat)=>(i:Int),())):=e
 rw[ADB,Oa]
 simp only[ANB hr hn hw ho,AjT,AK,hn,Ag,Ar]
 rw[AjF (show ¬ (0:Int)<0 by omega),AjF (show ¬ (n:Int)≤0 by omega)]
 simp only[e']
end
theorem AZY(tks:List Int):(List.range tks.length).map (fun i=>tks.getD i 0)=tks:=by
 refine Bv 0 (by simp) fun j hj => ?_
 rw[Aj6,AjY]at hj
 rw[AjI,Ajq,Akl hj]
 rfl
theorem AgU(f:Int→Bool)(tks:List Int)(m:Nat):((mpL (wL (tks.map f)) tks.length).take m).map (fun i=>tks.getD i 0)=(tks.filter f).take m:=by
 rw[List.map_take]
 congr 1
 have e:(List.range tks.length).filter (fun i=>decide ((wL (tks.map f)).getD i 0=1))=(List.range tks.length).filter (f ∘ fun i=>tks.getD i 0):=by
  refine AmL fun i hi => ?_
  rw[AkB]at hi
  have h1:(wL (tks.map f)).getD i 0=if f (tks.getD i 0)=true then 1 else 0:=by
   unfold wL
   rw[AmC,AjI,Ajq]
   have:tks[i]? = some (tks.getD i 0):=by
    rw[AjI,AjM hi]
    rfl
   rw[this]
   rfl
  rw[h1]
  show _=f (tks.getD i 0)
  cases f (tks.getD i 0)<;>rfl
 unfold mpL
 rw[e,← List.filter_map,AZY]
section
variable {N:Nat} {ts:List Tie} {v k:Int} {tks:List Int} {ofm:List (Int×Int)} {outm:RM} {s:List Int}
def AZ4(tks:List Int)(u w:Int)(i:Nat):Bool:=decide (tks.getD i 0=u)||decide (tks.getD i 0=w)
theorem AdJ(P:Nat→Bool):∀ (l:List Nat) (b:Bool),l.foldl (fun b x=>b||P x) b=(b||l.any P):=by
 intro l
 induction l with
 |nil=>intro b;simp
 |cons x l ih=>intro b;rw[Ajt,ih,List.any_cons,Bool.or_assoc]
theorem Aiv(n:Int)(ts:List Tie)(v k:Int)(tks d5:List Int)(d6 d7:List (List Int))(d8:Int)(ps:List Nat)(hps:ps.length≤1000)(hp:∀ p∈ps,p<tks.length)(d10 d11:List Edge)(d12 u w lv:Int)(tr:Bool)(d19:Int)(d20:Bool):
  AS Bx many (n,ts,v,k,tks,d5,d6,d7,d8,ps.map (fun(i:Nat)=>(i:Int)),d10,d11,d12,u,w,lv,tr,false,(0:Int),d19,d20,())=some (.inl (n,ts,v,k,tks,d5,d6,d7,d8,ps.map (fun(i:Nat)=>(i:Int)),d10,d11,d12,u,w,lv,tr,ps.any (AZ4 tks u w),d19,d20,())):=by
 have e:=Bn (step:=Bx) (fun i (b:Bool)=>(n,ts,v,k,tks,d5,d6,d7,d8,ps.map (fun(i:Nat)=>(i:Int)),d10,d11,d12,u,w,lv,tr,b,(i:Int),d19,d20,())) ps (fun x b=>.inl (b||AZ4 tks u w x)) (fun b=>.inl (n,ts,v,k,tks,d5,d6,d7,d8,ps.map (fun(i:Nat)=>(i:Int)),d10,d11,d12,u,w,lv,tr,b,d19,d20,())) (fun _ _=>True) (by omega)
  (fun i x b hi hx _=>by
   refine⟨fun m' h' => ?_,fun r h'=>(by cases h')⟩
   cases h'
   refine⟨?_,trivial⟩
   have hxp:=hp x (AjW hx)
   have hxi:(ps.map (fun(i:Nat)=>(i:Int)))[i]? = some (x:Int):=by rw[Ajq,hx];rfl
   unfold Bx
   dsimp only
   rw[AK,Aj6,AL,AjG hi]
   simp only[Ae hxi,Kg hxi,Bs (xs:=tks) 0 hxp,An]
   rw[AM (by omega)]
   unfold AZ4
   cases b
   ·by_cases h1:tks.getD x 0=u
    ·rw[AjG h1]
     rfl
    ·rw[AjF h1]
     rfl
   ·rfl)
  (fun b _=>by unfold Bx;dsimp only;rw[AK,Aj6,AL,AjF (by omega)]) false trivial
 have e':AS Bx many (n,ts,v,k,tks,d5,d6,d7,d8,ps.map (fun(i:Nat)=>(i:Int)),d10,d11,d12,u,w,lv,tr,false,(0:Int),d19,d20,())=_:=e
 rw[e',A0 (fun(x:Nat) (b:Bool)=>b||AZ4 tks u w x),AdJ,Bool.false_or]
theorem Aiw(n:Int)(ts:List Tie)(hts:ts.length≤400)(v k:Int)(tks d5:List Int)(d6 d7:List (List Int))(d8:Int)(ps:List Nat)(hps:ps.length≤1000)(hp:∀ p∈ps,p<tks.length)(d10:List Edge)(d19:Int)(d20:Bool):
  AS By many (n,ts,v,k,tks,d5,d6,d7,d8,ps.map (fun(i:Nat)=>(i:Int)),d10,([]:List Edge),(0:Int),d19,d20,())=some (.inl (n,ts,v,k,tks,d5,d6,d7,d8,d10,atL (DU ts k) (ps.map fun i=>tks.getD i 0),d19,d20,())):=by
 have hany:∀ u w:Int,ps.any (AZ4 tks u w)=(decide (u∈ps.map fun i=>tks.getD i 0)||decide (w∈ps.map fun i=>tks.getD i 0)):=by
  intro u w
  rw[Alb,AkW,Aku,Aku,AlX,Aja,Aja]
  unfold AZ4
  simp only[AkW,Aku]
  constructor
  ·rintro⟨x,h1,h2|h2⟩
   ·exact .inl ⟨x,h1,h2⟩
   ·exact .inr ⟨x,h1,h2⟩
  ·rintro (⟨x,h1,h2⟩|⟨x,h1,h2⟩)
   ·exact⟨x,h1,.inl h2⟩
   ·exact⟨x,h1,.inr h2⟩
 have e:=Bn (step:=By) (fun i (a:List Edge)=>(n,ts,v,k,tks,d5,d6,d7,d8,ps.map (fun(i:Nat)=>(i:Int)),d10,a,(i:Int),d19,d20,())) ts (fun t a=>.inl (if AFV k t&&(decide (t.1∈ps.map fun i=>tks.getD i 0)||decide (t.2.1∈ps.map fun i=>tks.getD i 0))then a++[ed t]else a)) (fun a=>.inl (n,ts,v,k,tks,d5,d6,d7,d8,d10,a,d19,d20,())) (fun i a=>a.length≤i) (by omega)
  (fun i t a hi hx ha=>by
   refine⟨fun m' h' => ?_,fun r h'=>(by cases h')⟩
   cases h'
   constructor
   ·unfold By
    dsimp only
    rw[AK,AL,AjG hi]
    simp only[Ae hx,Aiv n ts v k tks d5 d6 d7 d8 ps hps hp d10 a (i:Int) t.1 t.2.1 t.2.2.1 t.2.2.2.1 d19 d20,hany]
    rw[AM (by omega)]
    have hfit:fits (AG a+AG ([(t.1,(t.2.1,()))]:List Edge))=true:=BK (by simp only[AK,Aj8];omega)
    simp only[hfit,An]
    unfold AFV
    generalize (decide (t.1∈ps.map fun i=>tks.getD i 0)||decide (t.2.1∈ps.map fun i=>tks.getD i 0))=b
    cases b
    ·simp
    ·cases h4:t.2.2.2.1
     ·by_cases h5:t.2.2.1=k
      ·simp[h5,ed,A2]
      ·simp[h5]
     ·simp
   ·split
    ·simp;omega
    ·omega)
  (fun a _=>by unfold By;dsimp only;rw[AK,AL,AjF (by omega)]) [] (AjO _)
 have e':AS By many (n,ts,v,k,tks,d5,d6,d7,d8,ps.map (fun(i:Nat)=>(i:Int)),d10,([]:List Edge),(0:Int),d19,d20,())=_:=e
 rw[e',A0 (fun(t:Tie) (a:List Edge)=>if AFV k t&&(decide (t.1∈ps.map fun i=>tks.getD i 0)||decide (t.2.1∈ps.map fun i=>tks.getD i 0))then a++[ed t]else a),Aay]
 rfl
theorem Td(g:GT)(th s:List Int){P Q:Prop}(_:P)(_:Q)(h2:wfD (.slice (.int .u32)) s):El (g,th,s,())=some (true,()):=by
 have hs:=Ahh h2
 obtain⟨n,ts,⟨⟩⟩:=g
 rw[Mz,GZ]
 simp only[ALY,AjT]
 rcases APV n ts with g1|⟨g1,g2,g3⟩
 ·simp only[g1]
 simp only[g1]
 generalize AY th 0 (0:Int)=v
 generalize AY th 1 (0:Int)=k
 rcases Ab2 n ts (by omega) v k with⟨e,he,hse,ha⟩|⟨N,tks,ofm,outm,rfl,hg,hv,hse,ht,h⟩
 ·have he':e=1∨e=10:=he.imp id And.left
  simp only[ARP he' hse,AeX he',Aj2,twZ,AK,Aji,An]
  rfl
 ·have ho:=AhW h hs
  have hl:tks.length≤1000:=h.rg.1.1
  have hw:=AhR (bL N ts k tks)
  rw[Aey]at hw
  have run:=AE9 (step:=CN) (fun j=>((N:Int),ts,v,k,tks,hL s tks,NX (hL s tks) tks.length,smV N ts k s tks,(j:Int),())) 13 (.inr (.inl ())) (by omega)
   (fun j hj=>by
    have hf:=APg h.rg.1 rfl hw ho j
    have hnn:((j:Int)).toNat=j:=by omega
    have hpl:((mpL (wL (bL N ts k tks)) tks.length).take j).length≤1000:=by
     rw[Ajb]
     have:=Akm (fun i=>decide ((wL (bL N ts k tks)).getD i 0=1)) (List.range tks.length)
     rw[AjY]at this
     unfold mpL
     omega
    have hpp:∀ p∈(mpL (wL (bL N ts k tks)) tks.length).take j,p<tks.length:=fun p hp=>by
     have:=(AkE.1 (AlR hp)).1
     rw[AkB]at this
     exact this
    have h1:=Aiw (N:Int) ts hg.ht v k tks (hL s tks) (NX (hL s tks) tks.length) (smV N ts k s tks) (j:Int) _ hpl hpp (atL (DU ts k) ((stL N ts k tks).take j)) 0 false
    have hmp:=AgU (IG N (DU ts k)) tks j
    have hb:bL N ts k tks=tks.map (IG N (DU ts k)):=rfl
    rw[← hb]at hmp
    rw[hmp]at h1
    have hst:(tks.filter (IG N (DU ts k)))=stL N ts k tks:=rfl
    rw[hst]at h1
    have hr:=ARX hg h hse (j:Int)
    rw[hnn]at hr
    have hsame:=AMz (atL (DU ts k) ((stL N ts k tks).take j)) (by have:=AhH hg (k:=k) ((stL N ts k tks).take j);omega)
    unfold CN
    dsimp only
    rw[Ag,AjG (show(j:Int)<13 by omega)]
    have hf':Oc ((tks,(hL s tks,(NX (hL s tks) tks.length,()))),smV N ts k s tks,(0:Int),(j:Int),())=_:=hf
    simp only[hf',hr,Bd,AjT,h1,hsame]
    rw[AM (by omega)])
   (by
    unfold CN
    dsimp only
    rw[Ag,AjF (by omega)])
  have run':AS CN many ((N:Int),ts,v,k,tks,hL s tks,NX (hL s tks) tks.length,smV N ts k s tks,(0:Int),())=_:=run
  simp only[ARN h hs hse,twV,Bd,AjT,run']
end
end Go.Pev.Pl
end
section
namespace Go.Pev
open Go.RowKit
structure Aie(P:Program)(fn:Func)(T e:TypeId)(n:Nat):Prop where
 body:fn.body=some (.seq (.region 0 #[Bc fn 0 0] false) (.seq (.region 1 #[Bc fn 1 0,Bc fn 1 1,Bc fn 1 2,Bc fn 1 3,Bc fn 1 4,Bc fn 1 5,Bc fn 1 6] false) .ret))
 nt:fn.ntmps=9
 res:fn.results = #[.tmp 2]
 d:(Bc fn 0 0).dst=some 2∧(Bc fn 1 0).dst=some 3∧(Bc fn 1 1).dst=some 4∧(Bc fn 1 2).dst=some 5∧(Bc fn 1 3).dst=some 6∧(Bc fn 1 4).dst=some 7∧(Bc fn 1 5).dst=some 8∧(Bc fn 1 6).dst=some 2
 g:(Bc fn 0 0).guard=none∧(Bc fn 1 0).guard=none∧(Bc fn 1 1).guard=none∧(Bc fn 1 2).guard=none∧(Bc fn 1 3).guard=none∧(Bc fn 1 4).guard=none∧(Bc fn 1 5).guard=none∧(Bc fn 1 6).guard=none
 o00:(Bc fn 0 0).op = .assign (.const (.slice none 0 0))
 o10:(Bc fn 1 0).op = .move (.tmp 0)
 o11:(Bc fn 1 1).op = .move (.tmp 0)
 o12:(Bc fn 1 2).op = .call { callee:=.builtin .len,args:=#[.tmp 4],argTypes:=#[T] }
 o13:(Bc fn 1 3).op = .move (.tmp 0)
 o14:(Bc fn 1 4).op = .call { callee:=.builtin .len,args:=#[.tmp 6],argTypes:=#[T] }
 o15:(Bc fn 1 5).op = .slice T (.tmp 3) none (some (.tmp 5)) (some (.tmp 7))
 o16:(Bc fn 1 6).op = .assign (.tmp 8)
 sl:P.underlying T=some (.slice e)
 sz:BJ P e=some n
section
variable {P:Program} {g:FuncId} {fn:Func} {T e:TypeId} {n:Nat}
end
end Go.Pev
end
section
namespace Go.Pev
open Go.Proofs
noncomputable section
abbrev ACc:Hints:={ loop:=fun n=>match n with|0=>Ac 0 26 AHJ AHI E0|_=>fun _ _ _=>none,fp:=fun n=>match n with|6=>[[],[],[],[],[],[],[],[],[]]|_=>[] }
theorem AKW:∀ v,E0 v=roundOf Tryz.prog Env.none ACc 1 0 26 (AB Tryz.f26 0) AHJ AHI v:=by
 rintro⟨a0,a1,a2,⟨⟩⟩
 kernel_rfl
theorem AZt:AD (AB Tryz.f26 0) 1=[]:=by kernel_rfl
theorem AZu:Aa Tryz.prog 0 (.loop (AB Tryz.f26 0)) (ACc.loop 0):=AU Env.AJ2 (AKW) (AA AZt trivial)
theorem AUC:∀ v,Rp v=AQ 0 Tryz.prog Env.none ACc Tryz.f26 ACb ACa ACZ v:=by
 rintro⟨a0,a1,⟨⟩⟩
 kernel_rfl
theorem Adl:AD (AT Tryz.f26) 0=[(0,AB Tryz.f26 0)]:=by kernel_rfl
theorem AO6:AR Tryz.prog 26 (AF 0 2 ACb ACa ACZ IL):=AI Env.AJ2 Tryz.func26 (by kernel_rfl) (by kernel_rfl) rfl (fun v=>(AHK v).trans (AUC v)) (AA Adl ⟨AZu,trivial⟩)
def AEn:Env:=Env.none.ext 26 true true (AF 0 2 ACb ACa ACZ IL)
theorem YE:AZ Tryz.prog AEn:=Env.Ah Env.AJ2 AO6 (fun _=>AO rfl rfl) (fun _=>AJ rfl rfl)
abbrev AbO:Hints:={  }
theorem AQ5:∀ v,Q5 v=AQ 0 Tryz.prog AEn AbO Tryz.f109 Zs Zr Zq v:=by
 rintro⟨a0,⟨⟩⟩
 kernel_rfl
theorem AbN:AD (AT Tryz.f109) 0=[]:=by kernel_rfl
theorem AME:AR Tryz.prog 109 (AF 0 1 Zs Zr Zq Mo):=AI YE Tryz.func109 (by kernel_rfl) (by kernel_rfl) rfl (fun v=>(AGF v).trans (AQ5 v)) (AA AbN trivial)
def AEX:Env:=AEn.ext 109 true true (AF 0 1 Zs Zr Zq Mo)
theorem X4:AZ Tryz.prog AEX:=Env.Ah YE AME (fun _=>AO rfl rfl) (fun _=>AJ rfl rfl)
abbrev Aij:Hints:={  }
theorem AfY:∀ v,AVx v=AQ 0 Tryz.prog AEX Aij Tryz.f85 Abi Abh Abg v:=by
 rintro⟨a0,a1,⟨⟩⟩
 kernel_rfl
theorem Aii:AD (AT Tryz.f85) 0=[]:=by kernel_rfl
theorem Abf:AR Tryz.prog 85 (AF 0 2 Abi Abh Abg tin):=AI X4 Tryz.func85 (by kernel_rfl) (by kernel_rfl) rfl (fun v=>(Abj v).trans (AfY v)) (AA Aii trivial)
def AfE:Env:=AEX.ext 85 true true (AF 0 2 Abi Abh Abg tin)
theorem AQh:AZ Tryz.prog AfE:=Env.Ah X4 Abf (fun _=>AO rfl rfl) (fun _=>AJ rfl rfl)
abbrev Ahm:Hints:={  }
theorem Abn:∀ v,AIf v=AQ 0 Tryz.prog AfE Ahm Tryz.f153 ARL ARK ARJ v:=by
 rintro⟨a0,a1,a2,⟨⟩⟩
 kernel_rfl
theorem Ahl:AD (AT Tryz.f153) 0=[]:=by kernel_rfl
theorem AXw:AR Tryz.prog 153 (AF 0 3 ARL ARK ARJ AXx):=AI AQh Tryz.func153 (by kernel_rfl) (by kernel_rfl) rfl (fun v=>(AVy v).trans (Abn v)) (AA Ahl trivial)
def AVj:Env:=AfE.ext 153 true true (AF 0 3 ARL ARK ARJ AXx)
theorem AHp:AZ Tryz.prog AVj:=Env.Ah AQh AXw (fun _=>AO rfl rfl) (fun _=>AJ rfl rfl)
abbrev AbM:Hints:={ fp:=fun n=>match n with|5=>[[],[],[],[],[],[],[],[],[]]|_=>[] }
theorem AQ4:∀ v,Q4 v=AQ 0 Tryz.prog AVj AbM Tryz.f132 Zo Zn Zm v:=by
 rintro⟨a0,a1,⟨⟩⟩
 kernel_rfl
theorem AbL:AD (AT Tryz.f132) 0=[]:=by kernel_rfl
theorem AMD:AR Tryz.prog 132 (AF 0 2 Zo Zn Zm Zp):=AI AHp Tryz.func132 (by kernel_rfl) (by kernel_rfl) rfl (fun v=>(AGE v).trans (AQ4 v)) (AA AbL trivial)
def Sg:Env:=AVj.ext 132 true true (AF 0 2 Zo Zn Zm Zp)
theorem Ny:AZ Tryz.prog Sg:=Env.Ah AHp AMD (fun _=>AO rfl rfl) (fun _=>AJ rfl rfl)
abbrev AIa:Hints:={ loop:=fun n=>match n with|0=>Ac 0 25 AMO AMN Ht|_=>fun _ _ _=>none }
theorem AMM:∀ v,Ht v=roundOf Tryz.prog Sg AIa 1 0 25 (AB Tryz.f107 0) AMO AMN v:=by
 rintro⟨a0,a1,a2,a3,a4,⟨⟩⟩
 kernel_rfl
theorem Abd:AD (AB Tryz.f107 0) 1=[]:=by kernel_rfl
theorem Abe:Aa Tryz.prog 0 (.loop (AB Tryz.f107 0)) (AIa.loop 0):=AU Ny (AMM) (AA Abd trivial)
theorem AXu:∀ v,Y0 v=AQ 0 Tryz.prog Sg AIa Tryz.f107 AIZ AIY AIX v:=by
 rintro⟨a0,⟨⟩⟩
 kernel_rfl
theorem AfV:AD (AT Tryz.f107) 0=[(0,AB Tryz.f107 0)]:=by kernel_rfl
theorem ARF:AR Tryz.prog 107 (AF 0 1 AIZ AIY AIX AMQ):=AI Ny Tryz.func107 (by kernel_rfl) (by kernel_rfl) rfl (fun v=>(AMP v).trans (AXu v)) (AA AfV ⟨Abe,trivial⟩)
def ZJ:Env:=Sg.ext 107 true true (AF 0 1 AIZ AIY AIX AMQ)
theorem Qh:AZ Tryz.prog ZJ:=Env.Ah Ny ARF (fun _=>AO rfl rfl) (fun _=>AJ rfl rfl)
abbrev ACj:Hints:={ loop:=fun n=>match n with|0=>Ac 0 19 AHN AHM Fz|_=>fun _ _ _=>none }
theorem AKX:∀ v,Fz v=roundOf Tryz.prog ZJ ACj 1 0 19 (AB Tryz.f134 0) AHN AHM v:=by
 rintro⟨a0,a1,a2,a3,⟨⟩⟩
 kernel_rfl
theorem AZx:AD (AB Tryz.f134 0) 1=[]:=by kernel_rfl
theorem AZy:Aa Tryz.prog 0 (.loop (AB Tryz.f134 0)) (ACj.loop 0):=AU Qh (AKX) (AA AZx trivial)
theorem AUN:∀ v,Rr v=AQ 0 Tryz.prog ZJ ACj Tryz.f134 ACi ACh ACg v:=by
 rintro⟨a0,a1,⟨⟩⟩
 kernel_rfl
theorem Adu:AD (AT Tryz.f134) 0=[(0,AB Tryz.f134 0)]:=by kernel_rfl
theorem AO7:AR Tryz.prog 134 (AF 0 2 ACi ACh ACg QK):=AI Qh Tryz.func134 (by kernel_rfl) (by kernel_rfl) rfl (fun v=>(AHO v).trans (AUN v)) (AA Adu ⟨AZy,trivial⟩)
def AEo:Env:=ZJ.ext 134 true true (AF 0 2 ACi ACh ACg QK)
theorem YF:AZ Tryz.prog AEo:=Env.Ah Qh AO7 (fun _=>AO rfl rfl) (fun _=>AJ rfl rfl)
abbrev APz:Hints:={  }
theorem AFr:∀ v,JP v=AQ 0 Tryz.prog AEo APz Tryz.f114 Np No Nn v:=by
 rintro⟨a0,a1,⟨⟩⟩
 kernel_rfl
theorem APy:AD (AT Tryz.f114) 0=[]:=by kernel_rfl
theorem ADW:AR Tryz.prog 114 (AF 0 2 Np No Nn GH):=AI YF Tryz.func114 (by kernel_rfl) (by kernel_rfl) rfl (fun v=>(SO v).trans (AFr v)) (AA APy trivial)
def JZ:Env:=AEo.ext 114 true true (AF 0 2 Np No Nn GH)
theorem Ip:AZ Tryz.prog JZ:=Env.Ah YF ADW (fun _=>AO rfl rfl) (fun _=>AJ rfl rfl)
abbrev ATg:Hints:={ loop:=fun n=>match n with|0=>Ac 0 25 AWm AWl LL|_=>fun _ _ _=>none }
theorem ATc:∀ v,LL v=roundOf Tryz.prog JZ ATg 1 0 25 (AB Tryz.f110 0) AWm AWl v:=by
 rintro⟨a0,a1,a2,⟨⟩⟩
 kernel_rfl
theorem AgX:AD (AB Tryz.f110 0) 1=[]:=by kernel_rfl
theorem AgY:Aa Tryz.prog 0 (.loop (AB Tryz.f110 0)) (ATg.loop 0):=AU Ip (ATc) (AA AgX trivial)
theorem AdX:∀ v,AJ5 v=AQ 0 Tryz.prog JZ ATg Tryz.f110 ATf ATe ATd v:=by
 rintro⟨a0,⟨⟩⟩
 kernel_rfl
theorem AiI:AD (AT Tryz.f110) 0=[(0,AB Tryz.f110 0)]:=by kernel_rfl
theorem AZN:AR Tryz.prog 110 (AF 0 1 ATf ATe ATd AZO):=AI Ip Tryz.func110 (by kernel_rfl) (by kernel_rfl) rfl (fun v=>(AWn v).trans (AdX v)) (AA AiI ⟨AgY,trivial⟩)
def AVr:Env:=JZ.ext 110 true true (AF 0 1 ATf ATe ATd AZO)
theorem AHx:AZ Tryz.prog AVr:=Env.Ah Ip AZN (fun _=>AO rfl rfl) (fun _=>AJ rfl rfl)
abbrev Ag0:Hints:={  }
theorem AaD:∀ v,ZD v=AQ 0 Tryz.prog AVr Ag0 Tryz.f161 AKn AKm AKl v:=by
 rintro⟨a0,⟨⟩⟩
 kernel_rfl
theorem Agz:AD (AT Tryz.f161) 0=[]:=by kernel_rfl
theorem AUT:AR Tryz.prog 161 (AF 0 2 AKn AKm AKl APU):=AI AHx Tryz.func161 (by kernel_rfl) (by kernel_rfl) rfl (fun v=>(APT v).trans (AaD v)) (AA Agz trivial)
def S2:Env:=AVr.ext 161 false true (AF 0 2 AKn AKm AKl APU)
theorem ML:AZ Tryz.prog S2:=Env.Ah AHx AUT ((by simp)) (fun _=>AJ rfl rfl)
abbrev Ki:Hints:={ loop:=fun n=>match n with|0=>Ac 0 36 ADf ADd EY|1=>Ac 0 36 ADe ADc EX|_=>fun _ _ _=>none }
theorem AFt:∀ v,EX v=roundOf Tryz.prog S2 Ki 2 0 36 (AB Tryz.f152 1) ADe ADc v:=by
 rintro⟨a0,a1,a2,a3,⟨⟩⟩
 kernel_rfl
theorem AUz:AD (AB Tryz.f152 1) 2=[]:=by kernel_rfl
theorem AU1:Aa Tryz.prog 0 (.loop (AB Tryz.f152 1)) (Ki.loop 1):=AU ML (AFt) (AA AUz trivial)
theorem AFu:∀ v,EY v=roundOf Tryz.prog S2 Ki 1 0 36 (AB Tryz.f152 0) ADf ADd v:=by
 rintro⟨a0,a1,a2,a3,a4,⟨⟩⟩
 kernel_rfl
theorem AU0:AD (AB Tryz.f152 0) 1=[]:=by kernel_rfl
theorem AU2:Aa Tryz.prog 0 (.loop (AB Tryz.f152 0)) (Ki.loop 0):=AU ML (AFu) (AA AU0 trivial)
theorem AP2:∀ v,Oe v=AQ 0 Tryz.prog S2 Ki Tryz.f152 WM WL WK v:=by
 rintro⟨a0,⟨⟩⟩
 kernel_rfl
theorem Aaa:AD (AT Tryz.f152) 0=[(0,AB Tryz.f152 0),(1,AB Tryz.f152 1)]:=by kernel_rfl
theorem AK8:AR Tryz.prog 152 (AF 0 1 WM WL WK JQ):=AI ML Tryz.func152 (by kernel_rfl) (by kernel_rfl) rfl (fun v=>(ADg v).trans (AP2 v)) (AA Aaa ⟨AU2,AU1,trivial⟩)
def W2:Env:=S2.ext 152 true true (AF 0 1 WM WL WK JQ)
theorem S7:AZ Tryz.prog W2:=Env.Ah ML AK8 (fun _=>AO rfl rfl) (fun _=>AJ rfl rfl)
theorem AYY:Tryz.f96.body.isSome=true:=by kernel_rfl
theorem AYX : (Tryz.f96.name == "runtime.NumGoroutine") = false := by kernel_rfl
theorem AYW:loops (AT Tryz.f96)=0:=by kernel_rfl
def JX:Env:=W2.ext 96 false false (DJ Tryz.prog W2 {} Tryz.f96)
theorem Im:AZ Tryz.prog JX:=Env.Ah S7 (Cv S7 Tryz.func96 AYY AYX AYW) (by simp) (by simp)
end
end Go.Pev
end
section
namespace Go.Pev
open Go.Proofs
noncomputable section
abbrev IT:Hints:={ loop:=fun n=>match n with|0=>Ac 0 19 MR MQ CA|_=>fun _ _ _=>none }
theorem QN:∀ v,CA v=roundOf Tryz.prog JX IT 1 0 19 (AB Tryz.f91 0) MR MQ v:=by
 rintro⟨a0,a1,a2,⟨⟩⟩
 kernel_rfl
theorem Yd:AD (AB Tryz.f91 0) 1=[]:=by kernel_rfl
theorem Ye:Aa Tryz.prog 0 (.loop (AB Tryz.f91 0)) (IT.loop 0):=AU Im (QN) (AA Yd trivial)
theorem VV:∀ v,FI v=AQ 0 Tryz.prog JX IT Tryz.f91 IS IQ IP v:=by
 rintro⟨a0,⟨⟩⟩
 kernel_rfl
theorem ACs:AD (AT Tryz.f91) 0=[(0,AB Tryz.f91 0)]:=by kernel_rfl
theorem R3:AR Tryz.prog 91 (AF 0 2 IS IQ IP HR):=AI Im Tryz.func91 (by kernel_rfl) (by kernel_rfl) rfl (fun v=>(MT v).trans (VV v)) (AA ACs ⟨Ye,trivial⟩)
def Io:Env:=JX.CH 91 1 96 (AF 0 2 IS IQ IP HR)
theorem JY:AZ Tryz.prog Io:=Env.Az Im R3 (AJ rfl rfl)
abbrev Yn:Hints:={  }
theorem SV:∀ v,EI v=AQ 0 Tryz.prog Io Yn Tryz.f73 HA G9 G8 v:=by
 rintro⟨a0,⟨⟩⟩
 kernel_rfl
theorem Ym:AD (AT Tryz.f73) 0=[]:=by kernel_rfl
theorem QX:AR Tryz.prog 73 (AF 0 2 HA G9 G8 ED):=AI JY Tryz.func73 (by kernel_rfl) (by kernel_rfl) rfl (fun v=>(Kh v).trans (SV v)) (AA Ym trivial)
def EJ:Env:=Io.CH 73 1 96 (AF 0 2 HA G9 G8 ED)
theorem Ei:AZ Tryz.prog EJ:=Env.Az JY QX (AJ rfl rfl)
abbrev ATR:Hints:={ loop:=fun n=>match n with|0=>Ac 0 23 AWf AWe LG|_=>fun _ _ _=>none }
theorem ATN:∀ v,LG v=roundOf Tryz.prog EJ ATR 1 0 23 (AB Tryz.f97 0) AWf AWe v:=by
 rintro⟨a0,a1,a2,a3,a4,⟨⟩⟩
 kernel_rfl
theorem AgO:AD (AB Tryz.f97 0) 1=[]:=by kernel_rfl
theorem AgP:Aa Tryz.prog 0 (.loop (AB Tryz.f97 0)) (ATR.loop 0):=AU Ei (ATN) (AA AgO trivial)
theorem AdS:∀ v,AJz v=AQ 0 Tryz.prog EJ ATR Tryz.f97 ATQ ATP ATO v:=by
 rintro⟨a0,⟨⟩⟩
 kernel_rfl
theorem AiB:AD (AT Tryz.f97) 0=[(0,AB Tryz.f97 0)]:=by kernel_rfl
theorem AZE:AR Tryz.prog 97 (AF 0 1 ATQ ATP ATO once):=AI Ei Tryz.func97 (by kernel_rfl) (by kernel_rfl) rfl (fun v=>(AWg v).trans (AdS v)) (AA AiB ⟨AgP,trivial⟩)
def AVp:Env:=EJ.ext 97 true true (AF 0 1 ATQ ATP ATO once)
theorem AHv:AZ Tryz.prog AVp:=Env.Ah Ei AZE (fun _=>AO rfl rfl) (fun _=>AJ rfl rfl)
abbrev AcN:Hints:={  }
theorem AR7:∀ v,RN v=AQ 0 Tryz.prog AVp AcN Tryz.f72 AAm AAl AAk v:=by
 rintro⟨a0,⟨⟩⟩
 kernel_rfl
theorem AcM:AD (AT Tryz.f72) 0=[]:=by kernel_rfl
theorem AM0:AR Tryz.prog 72 (AF 0 1 AAm AAl AAk K8):=AI AHv Tryz.func72 (by kernel_rfl) (by kernel_rfl) rfl (fun v=>(AGl v).trans (AR7 v)) (AA AcM trivial)
def AEe:Env:=AVp.ext 72 true true (AF 0 1 AAm AAl AAk K8)
theorem X9:AZ Tryz.prog AEe:=Env.Ah AHv AM0 (fun _=>AO rfl rfl) (fun _=>AJ rfl rfl)
abbrev AbK:Hints:={ fp:=fun n=>match n with|1=>[[],[],[],[],[],[],[],[0],[]]|_=>[] }
theorem AQ2:∀ v,Q3 v=AQ 0 Tryz.prog AEe AbK Tryz.f160 Zl Zk Zj v:=by
 rintro⟨a0,a1,⟨⟩⟩
 kernel_rfl
theorem AbJ:AD (AT Tryz.f160) 0=[]:=by kernel_rfl
theorem AMC:AR Tryz.prog 160 (AF 0 2 Zl Zk Zj TO):=AI X9 Tryz.func160 (by kernel_rfl) (by kernel_rfl) rfl (fun v=>(AGD v).trans (AQ2 v)) (AA AbJ trivial)
def Sf:Env:=AEe.ext 160 true true (AF 0 2 Zl Zk Zj TO)
theorem Nx:AZ Tryz.prog Sf:=Env.Ah X9 AMC (fun _=>AO rfl rfl) (fun _=>AJ rfl rfl)
abbrev ABD:Hints:={ loop:=fun n=>match n with|0=>Ac 0 29 AGw AGv Es|_=>fun _ _ _=>none }
theorem AJY:∀ v,Es v=roundOf Tryz.prog Sf ABD 1 0 29 (AB Tryz.f159 0) AGw AGv v:=by
 rintro⟨a0,a1,a2,a3,a4,⟨⟩⟩
 kernel_rfl
theorem AYn:AD (AB Tryz.f159 0) 1=[]:=by kernel_rfl
theorem AYo:Aa Tryz.prog 0 (.loop (AB Tryz.f159 0)) (ABD.loop 0):=AU Nx (AJY) (AA AYn trivial)
theorem ASf:∀ v,Rc v=AQ 0 Tryz.prog Sf ABD Tryz.f159 ABC ABB ABA v:=by
 rintro⟨a0,a1,⟨⟩⟩
 kernel_rfl
theorem Acg:AD (AT Tryz.f159) 0=[(0,AB Tryz.f159 0)]:=by kernel_rfl
theorem ANL:AR Tryz.prog 159 (AF 0 2 ABC ABB ABA places):=AI Nx Tryz.func159 (by kernel_rfl) (by kernel_rfl) rfl (fun v=>(AGx v).trans (ASf v)) (AA Acg ⟨AYo,trivial⟩)
def AEh:Env:=Sf.ext 159 true true (AF 0 2 ABC ABB ABA places)
theorem YB:AZ Tryz.prog AEh:=Env.Ah Nx ANL (fun _=>AO rfl rfl) (fun _=>AJ rfl rfl)
abbrev Af1:Hints:={  }
theorem AYe:∀ v,Y5 v=AQ 0 Tryz.prog AEh Af1 Tryz.f151 AJO AJN AJM v:=by
 rintro⟨a0,a1,⟨⟩⟩
 kernel_rfl
theorem Af0:AD (AT Tryz.f151) 0=[]:=by kernel_rfl
theorem ASH:AR Tryz.prog 151 (AF 0 2 AJO AJN AJM AGo):=AI YB Tryz.func151 (by kernel_rfl) (by kernel_rfl) rfl (fun v=>(ANF v).trans (AYe v)) (AA Af0 trivial)
def ALi:Env:=AEh.ext 151 true true (AF 0 2 AJO AJN AJM AGo)
theorem AEg:AZ Tryz.prog ALi:=Env.Ah YB ASH (fun _=>AO rfl rfl) (fun _=>AJ rfl rfl)
abbrev AcP:Hints:={  }
theorem AR9:∀ v,RO v=AQ 0 Tryz.prog ALi AcP Tryz.f162 AAp AAo AAn v:=by
 rintro⟨a0,⟨⟩⟩
 kernel_rfl
theorem AcO:AD (AT Tryz.f162) 0=[]:=by kernel_rfl
theorem AM1:AR Tryz.prog 162 (AF 0 1 AAp AAo AAn AAq):=AI AEg Tryz.func162 (by kernel_rfl) (by kernel_rfl) rfl (fun v=>(AGm v).trans (AR9 v)) (AA AcO trivial)
def AEf:Env:=ALi.ext 162 true true (AF 0 1 AAp AAo AAn AAq)
theorem YA:AZ Tryz.prog AEf:=Env.Ah AEg AM1 (fun _=>AO rfl rfl) (fun _=>AJ rfl rfl)
theorem AXr:Tryz.f113.body.isSome=true:=by kernel_rfl
theorem AXq : (Tryz.f113.name == "runtime.NumGoroutine") = false := by kernel_rfl
theorem AXp:loops (AT Tryz.f113)=0:=by kernel_rfl
def JW:Env:=AEf.ext 113 false false (DJ Tryz.prog AEf {} Tryz.f113)
theorem Ij:AZ Tryz.prog JW:=Env.Ah YA (Cv YA Tryz.func113 AXr AXq AXp) (by simp) (by simp)
abbrev F7:Hints:={ loop:=fun n=>match n with|0=>Ac 1 19 I9 I8 Bj|_=>fun _ _ _=>none }
theorem NR:∀ v,Bj v=roundOf Tryz.prog JW F7 1 1 19 (AB Tryz.f112 0) I9 I8 v:=by
 rintro⟨a0,a1,a2,a3,⟨⟩⟩
 kernel_rfl
theorem Rw:AD (AB Tryz.f112 0) 1=[]:=by kernel_rfl
theorem Rx:Aa Tryz.prog 1 (.loop (AB Tryz.f112 0)) (F7.loop 0):=AU Ij (NR) (AA Rw trivial)
theorem QL:∀ v,Dy v=AQ 1 Tryz.prog JW F7 Tryz.f112 F6 F5 F4 v:=by
 rintro⟨a0,a1,⟨⟩⟩
 kernel_rfl
theorem VQ:AD (AT Tryz.f112) 0=[(0,AB Tryz.f112 0)]:=by kernel_rfl
theorem O7:AR Tryz.prog 112 (AF 1 2 F6 F5 F4 FG):=AI Ij Tryz.func112 (by kernel_rfl) (by kernel_rfl) rfl (fun v=>(JA v).trans (QL v)) (AA VQ ⟨Rx,trivial⟩)
def GS:Env:=JW.CH 112 1 113 (AF 1 2 F6 F5 F4 FG)
theorem HG:AZ Tryz.prog GS:=Env.Az Ij O7 (AJ rfl rfl)
abbrev AbV:Hints:={  }
theorem ARC:∀ v,Q7 v=AQ 0 Tryz.prog GS AbV Tryz.f87 Z2 Z1 Z0 v:=by
 rintro⟨a0,a1,⟨⟩⟩
 kernel_rfl
theorem AbU:AD (AT Tryz.f87) 0=[]:=by kernel_rfl
theorem AMI:AR Tryz.prog 87 (AF 0 2 Z2 Z1 Z0 Pc):=AI HG Tryz.func87 (by kernel_rfl) (by kernel_rfl) rfl (fun v=>(AGN v).trans (ARC v)) (AA AbU trivial)
def AEZ:Env:=GS.ext 87 true true (AF 0 2 Z2 Z1 Z0 Pc)
theorem X6:AZ Tryz.prog AEZ:=Env.Ah HG AMI (fun _=>AO rfl rfl) (fun _=>AJ rfl rfl)
theorem AhP:Tryz.f133.body.isSome=true:=by kernel_rfl
theorem AhO : (Tryz.f133.name == "runtime.NumGoroutine") = false := by kernel_rfl
theorem AhN:loops (AT Tryz.f133)=0:=by kernel_rfl
def O2:Env:=AEZ.ext 133 false false (DJ Tryz.prog AEZ {} Tryz.f133)
theorem MO:AZ Tryz.prog O2:=Env.Ah X6 (Cv X6 Tryz.func133 AhP AhO AhN) (by simp) (by simp)
end
end Go.Pev
end
section
namespace Go.Pev
open Go.Proofs
noncomputable section
abbrev AUY:Hints:={ loop:=fun n=>match n with|0=>Ac 0 107 AW9 AW8 JH|_=>fun _ _ _=>none,fp:=fun n=>match n with|8=>[[],[],[],[],[],[],[],[],[1000003],[],[],[],[],[],[],[],[],[0],[0],[0],[],[0],[0],[0],[2,26],[],[2,26],[2,26],[],[],[],[],[]]|13=>[[],[0],[0],[0],[2],[],[],[],[0],[0],[0],[6],[],[0],[0],[0],[4],[],[],[]]|3=>[[],[],[],[],[],[],[],[],[11],[],[],[],[8,10,12],[]]|_=>[] }
theorem AUU:∀ v,JH v=roundOf Tryz.prog O2 AUY 1 0 107 (AB Tryz.f111 0) AW9 AW8 v:=by
 rintro⟨a0,a1,a2,a3,a4,a5,a6,⟨⟩⟩
 kernel_rfl
theorem Ag1:AD (AB Tryz.f111 0) 1=[]:=by kernel_rfl
theorem Ag2:Aa Tryz.prog 0 (.loop (AB Tryz.f111 0)) (AUY.loop 0):=AU MO (AUU) (AA Ag1 trivial)
theorem AeJ:∀ v,AKp v=AQ 0 Tryz.prog O2 AUY Tryz.f111 AUX AUW AUV v:=by
 rintro⟨a0,a1,⟨⟩⟩
 kernel_rfl
theorem AiQ:AD (AT Tryz.f111) 0=[(0,AB Tryz.f111 0)]:=by kernel_rfl
theorem AaJ:AR Tryz.prog 111 (AF 0 2 AUX AUW AUV goes):=AI MO Tryz.func111 (by kernel_rfl) (by kernel_rfl) rfl (fun v=>(AXA v).trans (AeJ v)) (AA AiQ ⟨Ag2,trivial⟩)
def Wy:Env:=O2.ext 111 true true (AF 0 2 AUX AUW AUV goes)
theorem Kq:AZ Tryz.prog Wy:=Env.Ah MO AaJ (fun _=>AO rfl rfl) (fun _=>AJ rfl rfl)
abbrev Hp:Hints:={ loop:=fun n=>match n with|0=>Ac 0 87 AGL AGI Dp|1=>Ac 0 87 AGK AGH Dn|2=>Ac 0 87 AGJ AGG Ej|_=>fun _ _ _=>none,fp:=fun n=>match n with|8=>[[],[],[],[],[],[],[],[],[],[],[],[],[],[],[],[],[],[],[],[],[],[],[],[],[0],[0],[],[],[],[]]|_=>[] }
theorem AIP:∀ v,Ej v=roundOf Tryz.prog Wy Hp 3 0 87 (AB Tryz.f86 2) AGJ AGG v:=by
 rintro⟨a0,a1,a2,⟨⟩⟩
 kernel_rfl
theorem AXh:AD (AB Tryz.f86 2) 3=[]:=by kernel_rfl
theorem AXk:Aa Tryz.prog 0 (.loop (AB Tryz.f86 2)) (Hp.loop 2):=AU Kq (AIP) (AA AXh trivial)
theorem AIQ:∀ v,Dn v=roundOf Tryz.prog Wy Hp 2 0 87 (AB Tryz.f86 1) AGK AGH v:=by
 rintro⟨a0,a1,a2,a3,a4,a5,a6,a7,a8,a9,a10,a11,a12,a13,a14,a15,a16,a17,a18,a19,a20,a21,a22,a23,a24,a25,⟨⟩⟩
 kernel_rfl
theorem AXi:AD (AB Tryz.f86 1) 2=[]:=by kernel_rfl
theorem AXl:Aa Tryz.prog 0 (.loop (AB Tryz.f86 1)) (Hp.loop 1):=AU Kq (AIQ) (AA AXi trivial)
theorem AIR:∀ v,Dp v=roundOf Tryz.prog Wy Hp 1 0 87 (AB Tryz.f86 0) AGL AGI v:=by
 rintro⟨a0,a1,a2,a3,a4,a5,a6,⟨⟩⟩
 kernel_rfl
theorem AXj:AD (AB Tryz.f86 0) 1=[(1,AB Tryz.f86 1)]:=by kernel_rfl
theorem AXm:Aa Tryz.prog 0 (.loop (AB Tryz.f86 0)) (Hp.loop 0):=AU Kq (AIR) (AA AXj ⟨AXl,trivial⟩)
theorem AQ7:∀ v,Q6 v=AQ 0 Tryz.prog Wy Hp Tryz.f86 Zy Zx Zw v:=by
 rintro⟨a0,⟨⟩⟩
 kernel_rfl
theorem AbT:AD (AT Tryz.f86) 0=[(0,AB Tryz.f86 0),(2,AB Tryz.f86 2)]:=by kernel_rfl
theorem AMH:AR Tryz.prog 86 (AF 0 1 Zy Zx Zw Pb):=AI Kq Tryz.func86 (by kernel_rfl) (by kernel_rfl) rfl (fun v=>(AGM v).trans (AQ7 v)) (AA AbT ⟨AXm,AXk,trivial⟩)
def AEY:Env:=Wy.ext 86 true true (AF 0 1 Zy Zx Zw Pb)
theorem X5:AZ Tryz.prog AEY:=Env.Ah Kq AMH (fun _=>AO rfl rfl) (fun _=>AJ rfl rfl)
abbrev AhJ:Hints:={  }
theorem Aaz:∀ v,ZH v=AQ 0 Tryz.prog AEY AhJ Tryz.f150 ALU ALT ALS v:=by
 rintro⟨a0,a1,a2,⟨⟩⟩
 kernel_rfl
theorem AhI:AD (AT Tryz.f150) 0=[]:=by kernel_rfl
theorem AVb:AR Tryz.prog 150 (AF 0 3 ALU ALT ALS asked):=AI X5 Tryz.func150 (by kernel_rfl) (by kernel_rfl) rfl (fun v=>(AQS v).trans (Aaz v)) (AA AhI trivial)
def ALq:Env:=AEY.ext 150 true true (AF 0 3 ALU ALT ALS asked)
theorem AEv:AZ Tryz.prog ALq:=Env.Ah X5 AVb (fun _=>AO rfl rfl) (fun _=>AJ rfl rfl)
abbrev AiH:Hints:={  }
theorem AdV:∀ v,LK v=AQ 0 Tryz.prog ALq AiH Tryz.f90 ATa ATZ ATY v:=by
 rintro⟨a0,⟨⟩⟩
 kernel_rfl
theorem AiG:AD (AT Tryz.f90) 0=[]:=by kernel_rfl
theorem AZK:AR Tryz.prog 90 (AF 0 1 ATa ATZ ATY AdW):=AI AEv Tryz.func90 (by kernel_rfl) (by kernel_rfl) rfl (fun v=>(LJ v).trans (AdV v)) (AA AiG trivial)
def AVq:Env:=ALq.ext 90 true true (AF 0 1 ATa ATZ ATY AdW)
theorem AHw:AZ Tryz.prog AVq:=Env.Ah AEv AZK (fun _=>AO rfl rfl) (fun _=>AJ rfl rfl)
abbrev AU4:Hints:={  }
theorem ALB:∀ v,EZ v=AQ 0 Tryz.prog AVq AU4 Tryz.f62 Qa QZ QY v:=by
 rintro⟨a0,a1,⟨⟩⟩
 kernel_rfl
theorem AU3:AD (AT Tryz.f62) 0=[]:=by kernel_rfl
theorem AFv:AR Tryz.prog 62 (AF 0 2 Qa QZ QY Dh):=AI AHw Tryz.func62 (by kernel_rfl) (by kernel_rfl) rfl (fun v=>(G1 v).trans (ALB v)) (AA AU3 trivial)
def Qp:Env:=AVq.ext 62 true true (AF 0 2 Qa QZ QY Dh)
theorem PV:AZ Tryz.prog Qp:=Env.Ah AHw AFv (fun _=>AO rfl rfl) (fun _=>AJ rfl rfl)
abbrev AfH:Hints:={ fp:=fun n=>match n with|1=>[[],[],[],[],[],[],[],[]]|_=>[] }
theorem AXa:∀ v,Yw v=AQ 0 Tryz.prog Qp AfH Tryz.f164 AH7 AH6 AH5 v:=by
 rintro⟨a0,a1,⟨⟩⟩
 kernel_rfl
theorem AfG:AD (AT Tryz.f164) 0=[]:=by kernel_rfl
theorem AQj:AR Tryz.prog 164 (AF 0 2 AH7 AH6 AH5 BP):=AI PV Tryz.func164 (by kernel_rfl) (by kernel_rfl) rfl (fun v=>(ALu v).trans (AXa v)) (AA AfG trivial)
def ALe:Env:=Qp.ext 164 true true (AF 0 2 AH7 AH6 AH5 BP)
theorem AET:AZ Tryz.prog ALe:=Env.Ah PV AQj (fun _=>AO rfl rfl) (fun _=>AJ rfl rfl)
abbrev Agf:Hints:={  }
theorem AZr:∀ v,ZC v=AQ 0 Tryz.prog ALe Agf Tryz.f124 AKS AKR AKQ v:=by
 rintro⟨a0,⟨⟩⟩
 kernel_rfl
theorem Age:AD (AT Tryz.f124) 0=[]:=by kernel_rfl
theorem AT4:AR Tryz.prog 124 (AF 0 1 AKS AKR AKQ AO3):=AI AET Tryz.func124 (by kernel_rfl) (by kernel_rfl) rfl (fun v=>(AO2 v).trans (AZr v)) (AA Age trivial)
def ALm:Env:=ALe.ext 124 true true (AF 0 1 AKS AKR AKQ AO3)
theorem AEm:AZ Tryz.prog ALm:=Env.Ah AET AT4 (fun _=>AO rfl rfl) (fun _=>AJ rfl rfl)
abbrev Aax:Hints:={  }
theorem AQR:∀ v,Om v=AQ 0 Tryz.prog ALm Aax Tryz.f89 Wf We Wd v:=by
 rintro⟨a0,⟨⟩⟩
 kernel_rfl
theorem Aaw:AD (AT Tryz.f89) 0=[]:=by kernel_rfl
theorem ALR:AR Tryz.prog 89 (AF 0 1 Wf We Wd bitsLen):=AI AEm Tryz.func89 (by kernel_rfl) (by kernel_rfl) rfl (fun v=>(AEJ v).trans (AQR v)) (AA Aaw trivial)
def W5:Env:=ALm.ext 89 true true (AF 0 1 Wf We Wd bitsLen)
theorem TA:AZ Tryz.prog W5:=Env.Ah AEm ALR (fun _=>AO rfl rfl) (fun _=>AJ rfl rfl)
abbrev AXX:Hints:={ fp:=fun n=>match n with|3=>[[],[0],[0],[],[0],[0],[],[],[0],[1]]|2=>[[],[0],[0],[],[0],[0],[],[],[0],[1]]|1=>[[],[0],[0],[],[0],[0],[],[],[0],[1]]|_=>[] }
theorem ALs:∀ v,N9 v=AQ 1 Tryz.prog W5 AXX Tryz.f137 TG TF TE v:=by
 rintro⟨a0,⟨⟩⟩
 kernel_rfl
theorem AXW:AD (AT Tryz.f137) 0=[]:=by kernel_rfl
theorem AH3:AR Tryz.prog 137 (AF 1 1 TG TF TE xorNext):=AI TA Tryz.func137 (by kernel_rfl) (by kernel_rfl) rfl (fun v=>(ZP v).trans (ALs v)) (AA AXW trivial)
def Wm:Env:=W5.ext 137 false true (AF 1 1 TG TF TE xorNext)
theorem Sd:AZ Tryz.prog Wm:=Env.Ah TA AH3 ((by simp)) (fun _=>AJ rfl rfl)
abbrev AZJ:Hints:={  }
theorem AOf:∀ v,OR v=AQ 0 Tryz.prog Wm AZJ Tryz.f136 UM UL UK v:=by
 rintro⟨a0,⟨⟩⟩
 kernel_rfl
theorem AZI:AD (AT Tryz.f136) 0=[]:=by kernel_rfl
theorem AJ3:AR Tryz.prog 136 (AF 0 1 UM UL UK Rk):=AI Sd Tryz.func136 (by kernel_rfl) (by kernel_rfl) rfl (fun v=>(ACD v).trans (AOf v)) (AA AZI trivial)
def Kl:Env:=Wm.ext 136 true true (AF 0 1 UM UL UK Rk)
theorem HU:AZ Tryz.prog Kl:=Env.Ah Sd AJ3 (fun _=>AO rfl rfl) (fun _=>AJ rfl rfl)
abbrev ACd:Hints:={ loop:=fun n=>match n with|0=>Ac 1 53 AWv AWt AWr|1=>Ac 1 53 AWu AWs AWq|_=>fun _ _ _=>none,fp:=fun n=>match n with|4=>[[],[],[],[],[],[],[],[0],[0],[],[],[],[0],[0],[],[],[]]|6=>[[],[],[],[],[],[],[],[],[0],[0],[],[],[0],[0],[0],[1],[0],[1]]|_=>[] }
theorem AUD:∀ v,AWq v=roundOf Tryz.prog Kl ACd 2 1 53 (AB Tryz.f166 1) AWu AWs v:=by
 rintro⟨a0,a1,a2,a3,a4,⟨⟩⟩
 kernel_rfl
theorem Agg:AD (AB Tryz.f166 1) 2=[]:=by kernel_rfl
theorem Agi:Aa Tryz.prog 1 (.loop (AB Tryz.f166 1)) (ACd.loop 1):=AU HU (AUD) (AA Agg trivial)
theorem AUE:∀ v,AWr v=roundOf Tryz.prog Kl ACd 1 1 53 (AB Tryz.f166 0) AWv AWt v:=by
 rintro⟨a0,a1,a2,a3,⟨⟩⟩
 kernel_rfl
theorem Agh:AD (AB Tryz.f166 0) 1=[(1,AB Tryz.f166 1)]:=by kernel_rfl
theorem Agj:Aa Tryz.prog 1 (.loop (AB Tryz.f166 0)) (ACd.loop 0):=AU HU (AUE) (AA Agh ⟨Agi,trivial⟩)
theorem Adn:∀ v,Ado v=AQ 1 Tryz.prog Kl ACd Tryz.f166 AUH AUG AUF v:=by
 rintro⟨a0,a1,a2,⟨⟩⟩
 kernel_rfl
theorem AiM:AD (AT Tryz.f166) 0=[(0,AB Tryz.f166 0)]:=by kernel_rfl
theorem AZv:AR Tryz.prog 166 (AF 1 4 AUH AUG AUF AiN):=AI HU Tryz.func166 (by kernel_rfl) (by kernel_rfl) rfl (fun v=>(Agk v).trans (Adn v)) (AA AiM ⟨Agj,trivial⟩)
def ALn:Env:=Kl.CH 166 3 164 (AF 1 4 AUH AUG AUF AiN)
theorem Ww:AZ Tryz.prog ALn:=Env.Az HU AZv (AJ rfl rfl)
abbrev AI4:Hints:={ loop:=fun n=>match n with|0=>Ac 1 82 AMl AMk AMj|_=>fun _ _ _=>none,fp:=fun n=>match n with|6=>[[],[],[],[],[],[],[],[],[],[],[],[],[0],[0],[],[],[],[],[0],[0],[0],[1],[0],[1]]|5=>[[],[],[],[],[],[0],[0],[],[],[],[],[0],[0],[],[],[]]|3=>[[],[],[],[],[],[],[],[],[],[],[0],[0],[],[],[],[],[],[0],[0],[],[],[]]|_=>[] }
theorem AMi:∀ v,AMj v=roundOf Tryz.prog ALn AI4 1 1 82 (AB Tryz.f174 0) AMl AMk v:=by
 rintro⟨a0,a1,a2,a3,⟨⟩⟩
 kernel_rfl
theorem Ab3:AD (AB Tryz.f174 0) 1=[]:=by kernel_rfl
theorem Ab4:Aa Tryz.prog 1 (.loop (AB Tryz.f174 0)) (AI4.loop 0):=AU Ww (AMi) (AA Ab3 trivial)
theorem AYC:∀ v,AWB v=AQ 1 Tryz.prog ALn AI4 Tryz.f174 AI3 AI2 AI1 v:=by
 rintro⟨a0,a1,a2,a3,⟨⟩⟩
 kernel_rfl
theorem Afp:AD (AT Tryz.f174) 0=[(0,AB Tryz.f174 0)]:=by kernel_rfl
theorem ARr:AR Tryz.prog 174 (AF 1 5 AI3 AI2 AI1 Ab6):=AI Ww Tryz.func174 (by kernel_rfl) (by kernel_rfl) rfl (fun v=>(Ab5 v).trans (AYC v)) (AA Afp ⟨Ab4,trivial⟩)
def Sm:Env:=ALn.CH 174 4 164 (AF 1 5 AI3 AI2 AI1 Ab6)
theorem MC:AZ Tryz.prog Sm:=Env.Az Ww ARr (AJ rfl rfl)
end
end Go.Pev
end
section
namespace Go.Pev
open Go.Proofs
noncomputable section
abbrev R5:Hints:={ loop:=fun n=>match n with|0=>Ac 1 60 APG APE APC|1=>Ac 1 60 APF APD APA|_=>fun _ _ _=>none,fp:=fun n=>match n with|10=>[[],[],[],[],[],[],[],[],[],[],[0],[0],[],[],[0],[0],[0],[1],[0],[1]]|_=>[] }
theorem AO9:∀ v,APA v=roundOf Tryz.prog Sm R5 2 1 60 (AB Tryz.f167 1) APF APD v:=by
 rintro⟨a0,a1,a2,a3,⟨⟩⟩
 kernel_rfl
theorem Ad4:AD (AB Tryz.f167 1) 2=[]:=by kernel_rfl
theorem Ad6:Aa Tryz.prog 1 (.loop (AB Tryz.f167 1)) (R5.loop 1):=AU MC (AO9) (AA Ad4 trivial)
theorem APB:∀ v,APC v=roundOf Tryz.prog Sm R5 1 1 60 (AB Tryz.f167 0) APG APE v:=by
 rintro⟨a0,a1,a2,a3,a4,⟨⟩⟩
 kernel_rfl
theorem Ad5:AD (AB Tryz.f167 0) 1=[]:=by kernel_rfl
theorem Ad7:Aa Tryz.prog 1 (.loop (AB Tryz.f167 0)) (R5.loop 0):=AU MC (APB) (AA Ad5 trivial)
theorem AZ5:∀ v,AW5 v=AQ 1 Tryz.prog Sm R5 Tryz.f167 AKf AKe AKd v:=by
 rintro⟨a0,a1,a2,⟨⟩⟩
 kernel_rfl
theorem Agw:AD (AT Tryz.f167) 0=[(0,AB Tryz.f167 0),(1,AB Tryz.f167 1)]:=by kernel_rfl
theorem AUQ:AR Tryz.prog 167 (AF 1 4 AKf AKe AKd Ad9):=AI MC Tryz.func167 (by kernel_rfl) (by kernel_rfl) rfl (fun v=>(Ad8 v).trans (AZ5 v)) (AA Agw ⟨Ad7,Ad6,trivial⟩)
def ZL:Env:=Sm.CH 167 3 164 (AF 1 4 AKf AKe AKd Ad9)
theorem Qm:AZ Tryz.prog ZL:=Env.Az MC AUQ (AJ rfl rfl)
abbrev AEC:Hints:={ loop:=fun n=>match n with|0=>Ac 1 67 AHe AHd AHc|_=>fun _ _ _=>none,fp:=fun n=>match n with|10=>[[],[],[],[],[],[],[],[],[],[],[0],[0],[],[],[0],[0],[0],[1],[0],[1]]|_=>[] }
theorem ALO:∀ v,AHc v=roundOf Tryz.prog ZL AEC 1 1 67 (AB Tryz.f168 0) AHe AHd v:=by
 rintro⟨a0,a1,a2,a3,a4,a5,⟨⟩⟩
 kernel_rfl
theorem Aao:AD (AB Tryz.f168 0) 1=[]:=by kernel_rfl
theorem Aap:Aa Tryz.prog 1 (.loop (AB Tryz.f168 0)) (AEC.loop 0):=AU Qm (ALO) (AA Aao trivial)
theorem AVU:∀ v,AQN v=AQ 1 Tryz.prog ZL AEC Tryz.f168 AEB AEA AD9 v:=by
 rintro⟨a0,a1,a2,⟨⟩⟩
 kernel_rfl
theorem Aew:AD (AT Tryz.f168) 0=[(0,AB Tryz.f168 0)]:=by kernel_rfl
theorem AQM:AR Tryz.prog 168 (AF 1 4 AEB AEA AD9 AVV):=AI Qm Tryz.func168 (by kernel_rfl) (by kernel_rfl) rfl (fun v=>(Aaq v).trans (AVU v)) (AA Aew ⟨Aap,trivial⟩)
def AEt:Env:=ZL.CH 168 3 164 (AF 1 4 AEB AEA AD9 AVV)
theorem YJ:AZ Tryz.prog AEt:=Env.Az Qm AQM (AJ rfl rfl)
abbrev AY9:Hints:={ fp:=fun n=>match n with|1=>[[],[],[],[0],[0],[],[],[0],[0],[],[]]|_=>[] }
theorem AOb:∀ v,AG6 v=AQ 2 Tryz.prog AEt AY9 Tryz.f177 UE UD UC v:=by
 rintro⟨a0,a1,a2,a3,⟨⟩⟩
 kernel_rfl
theorem AY8:AD (AT Tryz.f177) 0=[]:=by kernel_rfl
theorem AJu:AR Tryz.prog 177 (AF 2 5 UE UD UC AJv):=AI YJ Tryz.func177 (by kernel_rfl) (by kernel_rfl) rfl (fun v=>(ATK v).trans (AOb v)) (AA AY8 trivial)
def Wq:Env:=AEt.CH 177 4 164 (AF 2 5 UE UD UC AJv)
theorem Ss:AZ Tryz.prog Wq:=Env.Az YJ AJu (AJ rfl rfl)
abbrev AZQ:Hints:={  }
theorem AOk:∀ v,AG9 v=AQ 2 Tryz.prog Wq AZQ Tryz.f176 UQ UP UO v:=by
 rintro⟨a0,a1,a2,a3,a4,⟨⟩⟩
 kernel_rfl
theorem AZP:AD (AT Tryz.f176) 0=[]:=by kernel_rfl
theorem AJ6:AR Tryz.prog 176 (AF 2 6 UQ UP UO AJ7):=AI Ss Tryz.func176 (by kernel_rfl) (by kernel_rfl) rfl (fun v=>(ATi v).trans (AOk v)) (AA AZP trivial)
def Ws:Env:=Wq.CH 176 5 164 (AF 2 6 UQ UP UO AJ7)
theorem Sv:AZ Tryz.prog Ws:=Env.Az Ss AJ6 (AJ rfl rfl)
abbrev AZU:Hints:={  }
theorem AOm:∀ v,AHB v=AQ 2 Tryz.prog Ws AZU Tryz.f175 UX UW UU v:=by
 rintro⟨a0,a1,a2,⟨⟩⟩
 kernel_rfl
theorem AZT:AD (AT Tryz.f175) 0=[]:=by kernel_rfl
theorem AKA:AR Tryz.prog 175 (AF 2 4 UX UW UU AKB):=AI Sv Tryz.func175 (by kernel_rfl) (by kernel_rfl) rfl (fun v=>(ATl v).trans (AOm v)) (AA AZT trivial)
def Wu:Env:=Ws.CH 175 3 164 (AF 2 4 UX UW UU AKB)
theorem Sx:AZ Tryz.prog Wu:=Env.Az Sv AKA (AJ rfl rfl)
abbrev Aci:Hints:={  }
theorem ASl:∀ v,ANO v=AQ 1 Tryz.prog Wu Aci Tryz.f169 ABJ ABI ABH v:=by
 rintro⟨a0,a1,a2,⟨⟩⟩
 kernel_rfl
theorem Ach:AD (AT Tryz.f169) 0=[]:=by kernel_rfl
theorem ANN:AR Tryz.prog 169 (AF 1 4 ABJ ABI ABH ASm):=AI Sx Tryz.func169 (by kernel_rfl) (by kernel_rfl) rfl (fun v=>(AYq v).trans (ASl v)) (AA Ach trivial)
def Sq:Env:=Wu.CH 169 3 164 (AF 1 4 ABJ ABI ABH ASm)
theorem N2:AZ Tryz.prog Sq:=Env.Az Sx ANN (AJ rfl rfl)
abbrev ASM:Hints:={ loop:=fun n=>match n with|0=>Ac 1 34 AWM AWL AWK|_=>fun _ _ _=>none,fp:=fun n=>match n with|3=>[[],[],[],[],[],[],[0],[0],[],[],[0],[0],[0],[1],[0],[1]]|_=>[] }
theorem ASI:∀ v,AWK v=roundOf Tryz.prog Sq ASM 1 1 34 (AB Tryz.f170 0) AWM AWL v:=by
 rintro⟨a0,a1,a2,⟨⟩⟩
 kernel_rfl
theorem Af2:AD (AB Tryz.f170 0) 1=[]:=by kernel_rfl
theorem Af3:Aa Tryz.prog 1 (.loop (AB Tryz.f170 0)) (ASM.loop 0):=AU N2 (ASI) (AA Af2 trivial)
theorem AcR:∀ v,AcS v=AQ 1 Tryz.prog Sq ASM Tryz.f170 ASL ASK ASJ v:=by
 rintro⟨a0,a1,a2,⟨⟩⟩
 kernel_rfl
theorem Ahz:AD (AT Tryz.f170) 0=[(0,AB Tryz.f170 0)]:=by kernel_rfl
theorem AYf:AR Tryz.prog 170 (AF 1 4 ASL ASK ASJ Ah0):=AI N2 Tryz.func170 (by kernel_rfl) (by kernel_rfl) rfl (fun v=>(Af4 v).trans (AcR v)) (AA Ahz ⟨Af3,trivial⟩)
def Qk:Env:=Sq.CH 170 3 164 (AF 1 4 ASL ASK ASJ Ah0)
theorem Hk:AZ Tryz.prog Qk:=Env.Az N2 AYf (AJ rfl rfl)
abbrev C3:Hints:={ loop:=fun n=>match n with|0=>Ac 1 141 XW XS XO|1=>Ac 1 141 XV XR XN|2=>Ac 1 141 XU XQ XM|3=>Ac 1 141 XT XP XL|_=>fun _ _ _=>none,fp:=fun n=>match n with|11=>[[],[],[],[],[],[],[],[],[0],[0],[],[],[0],[0],[0],[1],[0],[1]]|5=>[[],[],[],[],[],[],[],[0],[0],[],[],[],[0],[0],[],[],[],[]]|17=>[[],[],[],[],[],[],[],[],[0],[0],[],[],[0],[0],[0],[1],[0],[1]]|16=>[[],[],[],[0],[0],[],[],[],[0],[0],[],[],[]]|23=>[[],[],[],[],[],[],[],[],[0],[0],[],[],[0],[0],[0],[1],[0],[1]]|22=>[[],[],[],[0],[0],[],[],[],[0],[0],[],[],[]]|_=>[] }
theorem ABc:∀ v,XL v=roundOf Tryz.prog Qk C3 4 1 141 (AB Tryz.f171 3) XT XP v:=by
 rintro⟨a0,a1,a2,a3,a4,a5,⟨⟩⟩
 kernel_rfl
theorem ANq:AD (AB Tryz.f171 3) 4=[]:=by kernel_rfl
theorem ANu:Aa Tryz.prog 1 (.loop (AB Tryz.f171 3)) (C3.loop 3):=AU Hk (ABc) (AA ANq trivial)
theorem ABd:∀ v,XM v=roundOf Tryz.prog Qk C3 3 1 141 (AB Tryz.f171 2) XU XQ v:=by
 rintro⟨a0,a1,a2,a3,a4,a5,⟨⟩⟩
 kernel_rfl
theorem ANr:AD (AB Tryz.f171 2) 3=[]:=by kernel_rfl
theorem ANv:Aa Tryz.prog 1 (.loop (AB Tryz.f171 2)) (C3.loop 2):=AU Hk (ABd) (AA ANr trivial)
theorem ABe:∀ v,XN v=roundOf Tryz.prog Qk C3 2 1 141 (AB Tryz.f171 1) XV XR v:=by
 rintro⟨a0,a1,a2,a3,a4,⟨⟩⟩
 kernel_rfl
theorem ANs:AD (AB Tryz.f171 1) 2=[]:=by kernel_rfl
theorem ANw:Aa Tryz.prog 1 (.loop (AB Tryz.f171 1)) (C3.loop 1):=AU Hk (ABe) (AA ANs trivial)
theorem ABf:∀ v,XO v=roundOf Tryz.prog Qk C3 1 1 141 (AB Tryz.f171 0) XW XS v:=by
 rintro⟨a0,a1,a2,a3,a4,⟨⟩⟩
 kernel_rfl
theorem ANt:AD (AB Tryz.f171 0) 1=[(1,AB Tryz.f171 1),(2,AB Tryz.f171 2),(3,AB Tryz.f171 3)]:=by kernel_rfl
theorem ANx:Aa Tryz.prog 1 (.loop (AB Tryz.f171 0)) (C3.loop 0):=AU Hk (ABf) (AA ANt ⟨ANw,ANv,ANu,trivial⟩)
theorem AJj:∀ v,ABg v=AQ 1 Tryz.prog Qk C3 Tryz.f171 Px Pw Pv v:=by
 rintro⟨a0,a1,a2,⟨⟩⟩
 kernel_rfl
theorem AS1:AD (AT Tryz.f171) 0=[(0,AB Tryz.f171 0)]:=by kernel_rfl
theorem AFH:AR Tryz.prog 171 (AF 1 4 Px Pw Pv ABh):=AI Hk Tryz.func171 (by kernel_rfl) (by kernel_rfl) rfl (fun v=>(ANy v).trans (AJj v)) (AA AS1 ⟨ANx,trivial⟩)
def GP:Env:=Qk.CH 171 3 164 (AF 1 4 Px Pw Pv ABh)
theorem EF:AZ Tryz.prog GP:=Env.Az Hk AFH (AJ rfl rfl)
abbrev Ft:Hints:={ loop:=fun n=>match n with|0=>Ac 1 90 ABx ABu ABr|1=>Ac 1 90 ABw ABt ABq|2=>Ac 1 90 ABv ABs ABp|_=>fun _ _ _=>none,fp:=fun n=>match n with|8=>[[],[],[],[],[],[],[0],[0],[],[],[0],[0],[0],[1],[0],[1]]|3=>[[],[],[],[],[],[],[],[0],[0],[],[],[0],[0],[],[],[],[]]|5=>[[],[],[],[],[],[],[],[0],[0],[],[],[0],[0],[],[],[]]|1=>[[],[],[],[],[],[],[0],[0],[],[],[0],[0],[0],[1],[0],[1]]|_=>[] }
theorem AFM:∀ v,ABp v=roundOf Tryz.prog GP Ft 3 1 90 (AB Tryz.f172 2) ABv ABs v:=by
 rintro⟨a0,a1,a2,a3,⟨⟩⟩
 kernel_rfl
theorem AS4:AD (AB Tryz.f172 2) 3=[]:=by kernel_rfl
theorem AS7:Aa Tryz.prog 1 (.loop (AB Tryz.f172 2)) (Ft.loop 2):=AU EF (AFM) (AA AS4 trivial)
theorem AFN:∀ v,ABq v=roundOf Tryz.prog GP Ft 2 1 90 (AB Tryz.f172 1) ABw ABt v:=by
 rintro⟨a0,a1,a2,a3,⟨⟩⟩
 kernel_rfl
theorem AS5:AD (AB Tryz.f172 1) 2=[]:=by kernel_rfl
theorem AS8:Aa Tryz.prog 1 (.loop (AB Tryz.f172 1)) (Ft.loop 1):=AU EF (AFN) (AA AS5 trivial)
theorem AFO:∀ v,ABr v=roundOf Tryz.prog GP Ft 1 1 90 (AB Tryz.f172 0) ABx ABu v:=by
 rintro⟨a0,a1,a2,a3,⟨⟩⟩
 kernel_rfl
theorem AS6:AD (AB Tryz.f172 0) 1=[(1,AB Tryz.f172 1),(2,AB Tryz.f172 2)]:=by kernel_rfl
theorem AS9:Aa Tryz.prog 1 (.loop (AB Tryz.f172 0)) (Ft.loop 0):=AU EF (AFO) (AA AS6 ⟨AS8,AS7,trivial⟩)
theorem AOD:∀ v,AG1 v=AQ 1 Tryz.prog GP Ft Tryz.f172 T8 T7 T6 v:=by
 rintro⟨a0,a1,a2,a3,⟨⟩⟩
 kernel_rfl
theorem AY3:AD (AT Tryz.f172) 0=[(0,AB Tryz.f172 0)]:=by kernel_rfl
theorem AJm:AR Tryz.prog 172 (AF 1 5 T8 T7 T6 AJn):=AI EF Tryz.func172 (by kernel_rfl) (by kernel_rfl) rfl (fun v=>(ATA v).trans (AOD v)) (AA AY3 ⟨AS9,trivial⟩)
def E5:Env:=GP.CH 172 4 164 (AF 1 5 T8 T7 T6 AJn)
theorem DF:AZ Tryz.prog E5:=Env.Az EF AJm (AJ rfl rfl)
abbrev E9:Hints:={ loop:=fun n=>match n with|0=>Ac 1 178 ANp ANk ANf|1=>Ac 1 178 ANo ANj ANd|2=>Ac 1 178 ANn ANi ANb|3=>Ac 1 178 ANm ANh ANZ|4=>Ac 1 178 ANl ANg ANX|_=>fun _ _ _=>none,fp:=fun n=>match n with|3=>[[],[],[],[],[],[],[],[0],[0],[],[],[0],[0],[],[],[]]|5=>[[],[],[],[],[],[],[],[0],[0],[],[],[0],[0],[],[],[],[]]|18=>[[],[],[],[],[],[],[0],[0],[],[],[0],[0],[0],[1],[0],[1]]|13=>[[],[],[],[],[],[],[],[0],[0],[],[],[0],[0],[],[],[]]|15=>[[],[],[],[],[],[],[],[0],[0],[],[],[0],[0],[],[],[],[]]|21=>[[],[],[],[],[],[],[0],[0],[],[],[0],[0],[0],[1],[0],[1]]|10=>[[],[],[],[],[],[],[0],[0],[],[],[0],[0],[0],[1],[0],[1]]|8=>[[],[],[],[],[],[],[0],[0],[],[],[0],[0],[0],[1],[0],[1]]|1=>[[],[],[],[],[],[],[0],[0],[],[],[0],[0],[0],[1],[0],[1]]|_=>[] }
theorem ANW:∀ v,ANX v=roundOf Tryz.prog E5 E9 5 1 178 (AB Tryz.f173 4) ANl ANg v:=by
 rintro⟨a0,a1,a2,a3,⟨⟩⟩
 kernel_rfl
theorem Acq:AD (AB Tryz.f173 4) 5=[]:=by kernel_rfl
theorem Acw:Aa Tryz.prog 1 (.loop (AB Tryz.f173 4)) (E9.loop 4):=AU DF (ANW) (AA Acq trivial)
theorem ANY:∀ v,ANZ v=roundOf Tryz.prog E5 E9 4 1 178 (AB Tryz.f173 3) ANm ANh v:=by
 rintro⟨a0,a1,a2,a3,⟨⟩⟩
 kernel_rfl
theorem Acr:AD (AB Tryz.f173 3) 4=[]:=by kernel_rfl
theorem Acx:Aa Tryz.prog 1 (.loop (AB Tryz.f173 3)) (E9.loop 3):=AU DF (ANY) (AA Acr trivial)
theorem ANa:∀ v,ANb v=roundOf Tryz.prog E5 E9 3 1 178 (AB Tryz.f173 2) ANn ANi v:=by
 rintro⟨a0,a1,a2,a3,⟨⟩⟩
 kernel_rfl
theorem Acs:AD (AB Tryz.f173 2) 3=[(3,AB Tryz.f173 3),(4,AB Tryz.f173 4)]:=by kernel_rfl
theorem Acy:Aa Tryz.prog 1 (.loop (AB Tryz.f173 2)) (E9.loop 2):=AU DF (ANa) (AA Acs ⟨Acx,Acw,trivial⟩)
theorem ANc:∀ v,ANd v=roundOf Tryz.prog E5 E9 2 1 178 (AB Tryz.f173 1) ANo ANj v:=by
 rintro⟨a0,a1,a2,a3,⟨⟩⟩
 kernel_rfl
theorem Acu:AD (AB Tryz.f173 1) 2=[]:=by kernel_rfl
theorem Acz:Aa Tryz.prog 1 (.loop (AB Tryz.f173 1)) (E9.loop 1):=AU DF (ANc) (AA Acu trivial)
theorem ANe:∀ v,ANf v=roundOf Tryz.prog E5 E9 1 1 178 (AB Tryz.f173 0) ANp ANk v:=by
 rintro⟨a0,a1,a2,a3,⟨⟩⟩
 kernel_rfl
theorem Acv:AD (AB Tryz.f173 0) 1=[]:=by kernel_rfl
theorem Ac0:Aa Tryz.prog 1 (.loop (AB Tryz.f173 0)) (E9.loop 0):=AU DF (ANe) (AA Acv trivial)
theorem AY1:∀ v,AWb v=AQ 1 Tryz.prog E5 E9 Tryz.f173 AJi AJh AJg v:=by
 rintro⟨a0,a1,a2,a3,⟨⟩⟩
 kernel_rfl
theorem AgJ:AD (AT Tryz.f173) 0=[(0,AB Tryz.f173 0),(1,AB Tryz.f173 1),(2,AB Tryz.f173 2)]:=by kernel_rfl
theorem AS0:AR Tryz.prog 173 (AF 1 5 AJi AJh AJg Ac2):=AI DF Tryz.func173 (by kernel_rfl) (by kernel_rfl) rfl (fun v=>(Ac1 v).trans (AY1 v)) (AA AgJ ⟨Ac0,Acz,Acy,trivial⟩)
def ALj:Env:=E5.CH 173 4 164 (AF 1 5 AJi AJh AJg Ac2)
theorem AEj:AZ Tryz.prog ALj:=Env.Az DF AS0 (AJ rfl rfl)
abbrev ASv(self:(List (List Int)×Int×Int×Int×Unit)→Option ((List (List Int)×Unit))):Hints:={ loop:=fun n=>match n with|0=>Ac 1 148 AWX AWW (AWV self)|_=>fun _ _ _=>none,fp:=fun n=>match n with|17=>[[],[],[],[],[],[],[],[0],[0],[],[],[0],[0],[],[],[],[]]|_=>[] }
abbrev AJc(self:(List (List Int)×Int×Int×Int×Unit)→Option ((List (List Int)×Unit))):Env:=ALj.ext 165 false true (AF 1 5 ABV ABU ABT self)
theorem ASu(self:(List (List Int)×Int×Int×Int×Unit)→Option ((List (List Int)×Unit))):∀ v,AWV self v=roundOf Tryz.prog (AJc self) (ASv self) 1 1 148 (AB Tryz.f165 0) AWX AWW v:=by
 rintro⟨a0,a1,a2,a3,a4,a5,⟨⟩⟩
 kernel_rfl
theorem AgA:AD (AB Tryz.f165 0) 1=[]:=by kernel_rfl
theorem AgB(self:(List (List Int)×Int×Int×Int×Unit)→Option ((List (List Int)×Unit)))(hE:AZ Tryz.prog (AJc self)):Aa Tryz.prog 1 (.loop (AB Tryz.f165 0)) ((ASv self).loop 0):=AU hE (ASu self) (AA AgA trivial)
theorem Acn(self:(List (List Int)×Int×Int×Int×Unit)→Option ((List (List Int)×Unit))):∀ v,Ah6 self v=AQ 1 Tryz.prog (AJc self) (ASv self) Tryz.f165 ABV ABU ABT v:=by
 rintro⟨a0,a1,a2,a3,⟨⟩⟩
 kernel_rfl
theorem Ah5:AD (AT Tryz.f165) 0=[(0,AB Tryz.f165 0)]:=by kernel_rfl
theorem ASw:∀ n,AR Tryz.prog 165 (AF 1 5 ABV ABU ABT (ABW n)):=by
 intro n
 induction n with
 |zero=>exact Xl fun _=>rfl
 |succ n ih=>
  have hE:AZ Tryz.prog (AJc (ABW n)):=Env.Ah AEj ih ((by simp)) (fun _=>AJ rfl rfl)
  let self:=ABW n
  exact AI hE Tryz.func165 (by kernel_rfl) (by kernel_rfl) rfl (Acn self) (AA Ah5 ⟨(AgB self hE),trivial⟩)
theorem AYz:AR Tryz.prog 165 (AF 1 5 ABV ABU ABT AgD):=by
 have e:AgD=ABW 100:=funext AgC
 rw[e]
 exact ASw _
def AVn:Env:=ALj.CH 165 4 164 (AF 1 5 ABV ABU ABT AgD)
theorem AHt:AZ Tryz.prog AVn:=Env.Az AEj AYz (AJ rfl rfl)
abbrev Afg:Hints:={  }
theorem AX5:∀ v,AV2 v=AQ 1 Tryz.prog AVn Afg Tryz.f163 AIq AIp AIo v:=by
 rintro⟨a0,⟨⟩⟩
 kernel_rfl
theorem Aff:AD (AT Tryz.f163) 0=[]:=by kernel_rfl
theorem ARd:AR Tryz.prog 163 (AF 1 2 AIq AIp AIo AMb):=AI AHt Tryz.func163 (by kernel_rfl) (by kernel_rfl) rfl (fun v=>(Aby v).trans (AX5 v)) (AA Aff trivial)
def Si:Env:=AVn.CH 163 1 164 (AF 1 2 AIq AIp AIo AMb)
theorem L9:AZ Tryz.prog Si:=Env.Az AHt ARd (AJ rfl rfl)
end
end Go.Pev
end
section
namespace Go.Pev
open Go.Proofs
noncomputable section
abbrev Qy:Hints:={ loop:=fun n=>match n with|0=>Ac 0 47 AL6 AL4 Hn|1=>Ac 0 47 AL5 AL3 Hm|_=>fun _ _ _=>none }
theorem AL1:∀ v,Hm v=roundOf Tryz.prog Si Qy 2 0 47 (AB Tryz.f154 1) AL5 AL3 v:=by
 rintro⟨a0,a1,a2,a3,a4,a5,a6,⟨⟩⟩
 kernel_rfl
theorem AbD:AD (AB Tryz.f154 1) 2=[]:=by kernel_rfl
theorem AbF:Aa Tryz.prog 0 (.loop (AB Tryz.f154 1)) (Qy.loop 1):=AU L9 (AL1) (AA AbD trivial)
theorem AL2:∀ v,Hn v=roundOf Tryz.prog Si Qy 1 0 47 (AB Tryz.f154 0) AL6 AL4 v:=by
 rintro⟨a0,a1,a2,a3,a4,a5,a6,a7,a8,⟨⟩⟩
 kernel_rfl
theorem AbE:AD (AB Tryz.f154 0) 1=[]:=by kernel_rfl
theorem AbG:Aa Tryz.prog 0 (.loop (AB Tryz.f154 0)) (Qy.loop 0):=AU L9 (AL2) (AA AbE trivial)
theorem AXf:∀ v,Yx v=AQ 0 Tryz.prog Si Qy Tryz.f154 AII AIH AIF v:=by
 rintro⟨a0,a1,a2,⟨⟩⟩
 kernel_rfl
theorem AfI:AD (AT Tryz.f154) 0=[(0,AB Tryz.f154 0),(1,AB Tryz.f154 1)]:=by kernel_rfl
theorem AQt:AR Tryz.prog 154 (AF 0 3 AII AIH AIF AL8):=AI L9 Tryz.func154 (by kernel_rfl) (by kernel_rfl) rfl (fun v=>(AL7 v).trans (AXf v)) (AA AfI ⟨AbG,AbF,trivial⟩)
def ALf:Env:=Si.ext 154 true true (AF 0 3 AII AIH AIF AL8)
theorem AEV:AZ Tryz.prog ALf:=Env.Ah L9 AQt (fun _=>AO rfl rfl) (fun _=>AJ rfl rfl)
abbrev AfX:Hints:={ fp:=fun n=>match n with|9=>[[],[28],[0],[0],[],[],[],[],[],[0],[0],[],[],[],[],[],[28],[28,52,36,62],[64],[]]|4=>[[0],[],[],[0],[],[],[],[]]|_=>[] }
theorem AXv:∀ v,HK v=AQ 0 Tryz.prog ALf AfX Tryz.f131 AId AIc AIb v:=by
 rintro⟨a0,a1,a2,⟨⟩⟩
 kernel_rfl
theorem AfW:AD (AT Tryz.f131) 0=[]:=by kernel_rfl
theorem ARH:AR Tryz.prog 131 (AF 0 3 AId AIc AIb Mq):=AI AEV Tryz.func131 (by kernel_rfl) (by kernel_rfl) rfl (fun v=>(Hu v).trans (AXv v)) (AA AfW trivial)
def ALg:Env:=ALf.ext 131 true true (AF 0 3 AId AIc AIb Mq)
theorem AEa:AZ Tryz.prog ALg:=Env.Ah AEV ARH (fun _=>AO rfl rfl) (fun _=>AJ rfl rfl)
theorem Abm:Tryz.f158.body.isSome=true:=by kernel_rfl
theorem Abl : (Tryz.f158.name == "runtime.NumGoroutine") = false := by kernel_rfl
theorem Abk:loops (AT Tryz.f158)=0:=by kernel_rfl
def L7:Env:=ALg.ext 158 false false (DJ Tryz.prog ALg {} Tryz.f158)
theorem J8:AZ Tryz.prog L7:=Env.Ah AEa (Cv AEa Tryz.func158 Abm Abl Abk) (by simp) (by simp)
abbrev GB:Hints:={ loop:=fun n=>match n with|0=>Ac 1 19 JD JC Bk|_=>fun _ _ _=>none }
theorem NV:∀ v,Bk v=roundOf Tryz.prog L7 GB 1 1 19 (AB Tryz.f91 0) JD JC v:=by
 rintro⟨a0,a1,a2,a3,a4,⟨⟩⟩
 kernel_rfl
theorem Rz:AD (AB Tryz.f91 0) 1=[]:=by kernel_rfl
theorem R0:Aa Tryz.prog 1 (.loop (AB Tryz.f91 0)) (GB.loop 0):=AU J8 (NV) (AA Rz trivial)
theorem QM:∀ v,Dz v=AQ 1 Tryz.prog L7 GB Tryz.f91 GA F9 F8 v:=by
 rintro⟨a0,a1,a2,⟨⟩⟩
 kernel_rfl
theorem VS:AD (AT Tryz.f91) 0=[(0,AB Tryz.f91 0)]:=by kernel_rfl
theorem O8:AR Tryz.prog 91 (AF 1 2 GA F9 F8 FH):=AI J8 Tryz.func91 (by kernel_rfl) (by kernel_rfl) rfl (fun v=>(JE v).trans (QM v)) (AA VS ⟨R0,trivial⟩)
def GV:Env:=L7.CH 91 1 158 (AF 1 2 GA F9 F8 FH)
theorem HH:AZ Tryz.prog GV:=Env.Az J8 O8 (AJ rfl rfl)
abbrev SR:Hints:={  }
theorem O9:∀ v,DR v=AQ 1 Tryz.prog GV SR Tryz.f73 FP FO FN v:=by
 rintro⟨a0,a1,a2,⟨⟩⟩
 kernel_rfl
theorem SQ:AD (AT Tryz.f73) 0=[]:=by kernel_rfl
theorem Nq:AR Tryz.prog 73 (AF 1 2 FP FO FN DL):=AI HH Tryz.func73 (by kernel_rfl) (by kernel_rfl) rfl (fun v=>(IX v).trans (O9 v)) (AA SQ trivial)
def Fe:Env:=GV.CH 73 1 158 (AF 1 2 FP FO FN DL)
theorem G4:AZ Tryz.prog Fe:=Env.Az HH Nq (AJ rfl rfl)
abbrev AeM:Hints:={  }
theorem AUZ:∀ v,R9 v=AQ 0 Tryz.prog Fe AeM Tryz.f148 AC2 AC1 AC0 v:=by
 rintro⟨a0,a1,⟨⟩⟩
 kernel_rfl
theorem AeL:AD (AT Tryz.f148) 0=[]:=by kernel_rfl
theorem APa:AR Tryz.prog 148 (AF 0 2 AC2 AC1 AC0 QO):=AI G4 Tryz.func148 (by kernel_rfl) (by kernel_rfl) rfl (fun v=>(AHS v).trans (AUZ v)) (AA AeL trivial)
def S3:Env:=Fe.ext 148 true true (AF 0 2 AC2 AC1 AC0 QO)
theorem N6:AZ Tryz.prog S3:=Env.Ah G4 APa (fun _=>AO rfl rfl) (fun _=>AJ rfl rfl)
abbrev AUp:Hints:={ loop:=fun n=>match n with|0=>Ac 0 21 AXH AXG Lo|_=>fun _ _ _=>none }
theorem AUl:∀ v,Lo v=roundOf Tryz.prog S3 AUp 1 0 21 (AB Tryz.f149 0) AXH AXG v:=by
 rintro⟨a0,a1,a2,a3,⟨⟩⟩
 kernel_rfl
theorem Ag8:AD (AB Tryz.f149 0) 1=[]:=by kernel_rfl
theorem Ag9:Aa Tryz.prog 0 (.loop (AB Tryz.f149 0)) (AUp.loop 0):=AU N6 (AUl) (AA Ag8 trivial)
theorem Aeb:∀ v,AK0 v=AQ 0 Tryz.prog S3 AUp Tryz.f149 AUo AUn AUm v:=by
 rintro⟨a0,⟨⟩⟩
 kernel_rfl
theorem AiS:AD (AT Tryz.f149) 0=[(0,AB Tryz.f149 0)]:=by kernel_rfl
theorem AaW:AR Tryz.prog 149 (AF 0 1 AUo AUn AUm ends):=AI N6 Tryz.func149 (by kernel_rfl) (by kernel_rfl) rfl (fun v=>(AXI v).trans (Aeb v)) (AA AiS ⟨Ag9,trivial⟩)
def ALp:Env:=S3.ext 149 true true (AF 0 1 AUo AUn AUm ends)
theorem W1:AZ Tryz.prog ALp:=Env.Ah N6 AaW (fun _=>AO rfl rfl) (fun _=>AJ rfl rfl)
abbrev QW:Hints:={ loop:=fun n=>match n with|0=>Ac 0 48 Xv Xu B4|_=>fun _ _ _=>none,fp:=fun n=>match n with|1=>[[0],[],[],[4],[]]|_=>[] }
theorem ADP:∀ v,B4 v=roundOf Tryz.prog ALp QW 1 0 48 (AB Tryz.f130 0) Xv Xu v:=by
 rintro⟨a0,a1,a2,a3,a4,a5,a6,⟨⟩⟩
 kernel_rfl
theorem APs:AD (AB Tryz.f130 0) 1=[]:=by kernel_rfl
theorem APt:Aa Tryz.prog 0 (.loop (AB Tryz.f130 0)) (QW.loop 0):=AU W1 (ADP) (AA APs trivial)
theorem AK1:∀ v,IW v=AQ 0 Tryz.prog ALp QW Tryz.f130 QV QU QT v:=by
 rintro⟨a0,a1,⟨⟩⟩
 kernel_rfl
theorem AUq:AD (AT Tryz.f130) 0=[(0,AB Tryz.f130 0)]:=by kernel_rfl
theorem AFm:AR Tryz.prog 130 (AF 0 3 QV QU QT SJ):=AI W1 Tryz.func130 (by kernel_rfl) (by kernel_rfl) rfl (fun v=>(Ni v).trans (AK1 v)) (AA AUq ⟨APt,trivial⟩)
def Qo:Env:=ALp.CH 130 2 131 (AF 0 3 QV QU QT SJ)
theorem PU:AZ Tryz.prog Qo:=Env.Az W1 AFm (AJ rfl rfl)
abbrev AeU:Hints:={  }
theorem AUc:∀ v,Nd v=AQ 0 Tryz.prog Qo AeU Tryz.f108 AC8 AC7 AC6 v:=by
 rintro⟨a0,a1,⟨⟩⟩
 kernel_rfl
theorem AeT:AD (AT Tryz.f108) 0=[]:=by kernel_rfl
theorem APf:AR Tryz.prog 108 (AF 0 2 AC8 AC7 AC6 AKs):=AI PU Tryz.func108 (by kernel_rfl) (by kernel_rfl) rfl (fun v=>(Vr v).trans (AUc v)) (AA AeT trivial)
def AEq:Env:=Qo.ext 108 true true (AF 0 2 AC8 AC7 AC6 AKs)
theorem YG:AZ Tryz.prog AEq:=Env.Ah PU APf (fun _=>AO rfl rfl) (fun _=>AJ rfl rfl)
abbrev Aiy:Hints:={  }
theorem Ag5:∀ v,APe v=AQ 0 Tryz.prog AEq Aiy Tryz.f83 AeS AeR AeQ v:=by
 rintro⟨a0,a1,⟨⟩⟩
 kernel_rfl
theorem Aix:AD (AT Tryz.f83) 0=[]:=by kernel_rfl
theorem AeP:AR Tryz.prog 83 (AF 0 2 AeS AeR AeQ fof):=AI YG Tryz.func83 (by kernel_rfl) (by kernel_rfl) rfl (fun v=>(AUb v).trans (Ag5 v)) (AA Aix trivial)
def AXV:Env:=AEq.ext 83 true true (AF 0 2 AeS AeR AeQ fof)
theorem AEp:AZ Tryz.prog AXV:=Env.Ah YG AeP (fun _=>AO rfl rfl) (fun _=>AJ rfl rfl)
abbrev AdQ:Hints:={ loop:=fun n=>match n with|0=>Ac 0 18 AdO AdM Fv|_=>fun _ _ _=>none }
theorem AZC:∀ v,Fv v=roundOf Tryz.prog AXV AdQ 1 0 18 (AB Tryz.f61 0) AdO AdM v:=by
 rintro⟨a0,a1,a2,a3,⟨⟩⟩
 kernel_rfl
theorem Ah9:AD (AB Tryz.f61 0) 1=[]:=by kernel_rfl
theorem AiA:Aa Tryz.prog 0 (.loop (AB Tryz.f61 0)) (AdQ.loop 0):=AU AEp (AZC) (AA Ah9 trivial)
theorem AgN:∀ v,AG8 v=AQ 0 Tryz.prog AXV AdQ Tryz.f61 AdP AdN AdL v:=by
 rintro⟨a0,⟨⟩⟩
 kernel_rfl
theorem Air:AD (AT Tryz.f61) 0=[(0,AB Tryz.f61 0)]:=by kernel_rfl
theorem AdK:AR Tryz.prog 61 (AF 0 1 AdP AdN AdL orI):=AI AEp Tryz.func61 (by kernel_rfl) (by kernel_rfl) rfl (fun v=>(AJy v).trans (AgN v)) (AA Air ⟨AiA,trivial⟩)
def AfF:Env:=AXV.ext 61 true true (AF 0 1 AdP AdN AdL orI)
theorem AQi:AZ Tryz.prog AfF:=Env.Ah AEp AdK (fun _=>AO rfl rfl) (fun _=>AJ rfl rfl)
abbrev Ade:Hints:={  }
theorem ATx:∀ v,NN v=AQ 0 Tryz.prog AfF Ade Tryz.f104 ACL ACK ACJ v:=by
 rintro⟨a0,⟨⟩⟩
 kernel_rfl
theorem Adc:AD (AT Tryz.f104) 0=[]:=by kernel_rfl
theorem AOv:AR Tryz.prog 104 (AF 0 1 ACL ACK ACJ VD):=AI AQi Tryz.func104 (by kernel_rfl) (by kernel_rfl) rfl (fun v=>(VC v).trans (ATx v)) (AA Adc trivial)
def AEl:Env:=AfF.ext 104 true true (AF 0 1 ACL ACK ACJ VD)
theorem YD:AZ Tryz.prog AEl:=Env.Ah AQi AOv (fun _=>AO rfl rfl) (fun _=>AJ rfl rfl)
end
end Go.Pev
end
section
namespace Go.Pev
open Go.Proofs
noncomputable section
abbrev AiK:Hints:={  }
theorem Adb:∀ v,ATw v=AQ 0 Tryz.prog AEl AiK Tryz.f105 ATv ATu ATt v:=by
 rintro⟨a0,⟨⟩⟩
 kernel_rfl
theorem AiJ:AD (AT Tryz.f105) 0=[]:=by kernel_rfl
theorem AZe:AR Tryz.prog 105 (AF 0 1 ATv ATu ATt AKK):=AI YD Tryz.func105 (by kernel_rfl) (by kernel_rfl) rfl (fun v=>(Agb v).trans (Adb v)) (AA AiJ trivial)
def AVs:Env:=AEl.ext 105 true true (AF 0 1 ATv ATu ATt AKK)
theorem AHy:AZ Tryz.prog AVs:=Env.Ah YD AZe (fun _=>AO rfl rfl) (fun _=>AJ rfl rfl)
abbrev AT7:Hints:={ fp:=fun n=>match n with|1=>[[0],[0],[2],[2],[],[0],[0],[2],[2],[],[],[20],[]]|_=>[] }
theorem AKU:∀ v,LV v=AQ 0 Tryz.prog AVs AT7 Tryz.f106 QD QC QB v:=by
 rintro⟨a0,a1,⟨⟩⟩
 kernel_rfl
theorem AT6:AD (AT Tryz.f106) 0=[]:=by kernel_rfl
theorem AFZ:AR Tryz.prog 106 (AF 0 2 QD QC QB KZ):=AI AHy Tryz.func106 (by kernel_rfl) (by kernel_rfl) rfl (fun v=>(Xn v).trans (AKU v)) (AA AT6 trivial)
def MK:Env:=AVs.ext 106 true true (AF 0 2 QD QC QB KZ)
theorem J9:AZ Tryz.prog MK:=Env.Ah AHy AFZ (fun _=>AO rfl rfl) (fun _=>AJ rfl rfl)
abbrev ACI:Hints:={ loop:=fun n=>match n with|0=>Ac 0 33 AHE AHD Cq|_=>fun _ _ _=>none }
theorem AKJ:∀ v,Cq v=roundOf Tryz.prog MK ACI 1 0 33 (AB Tryz.f84 0) AHE AHD v:=by
 rintro⟨a0,a1,a2,a3,a4,⟨⟩⟩
 kernel_rfl
theorem AZc:AD (AB Tryz.f84 0) 1=[]:=by kernel_rfl
theorem AZd:Aa Tryz.prog 0 (.loop (AB Tryz.f84 0)) (ACI.loop 0):=AU J9 (AKJ) (AA AZc trivial)
theorem ATs:∀ v,NM v=AQ 0 Tryz.prog MK ACI Tryz.f84 ACH ACG ACF v:=by
 rintro⟨a0,a1,⟨⟩⟩
 kernel_rfl
theorem Ada:AD (AT Tryz.f84) 0=[(0,AB Tryz.f84 0)]:=by kernel_rfl
theorem AOr:AR Tryz.prog 84 (AF 0 2 ACH ACG ACF P9):=AI J9 Tryz.func84 (by kernel_rfl) (by kernel_rfl) rfl (fun v=>(VB v).trans (ATs v)) (AA Ada ⟨AZd,trivial⟩)
def S0:Env:=MK.ext 84 true true (AF 0 2 ACH ACG ACF P9)
theorem N4:AZ Tryz.prog S0:=Env.Ah J9 AOr (fun _=>AO rfl rfl) (fun _=>AJ rfl rfl)
abbrev ACQ:Hints:={ loop:=fun n=>match n with|0=>Ac 0 96 AHG AHF Du|_=>fun _ _ _=>none,fp:=fun n=>match n with|7=>[[2],[2],[],[],[2],[2],[2],[2],[],[],[],[2],[2],[0],[0],[],[],[],[2],[2],[],[],[],[2],[2],[],[],[],[],[],[],[],[0],[0],[],[],[],[],[2],[],[],[],[]]|_=>[] }
theorem AKL:∀ v,Du v=roundOf Tryz.prog S0 ACQ 1 0 96 (AB Tryz.f82 0) AHG AHF v:=by
 rintro⟨a0,a1,a2,a3,a4,a5,⟨⟩⟩
 kernel_rfl
theorem AZf:AD (AB Tryz.f82 0) 1=[]:=by kernel_rfl
theorem AZg:Aa Tryz.prog 0 (.loop (AB Tryz.f82 0)) (ACQ.loop 0):=AU N4 (AKL) (AA AZf trivial)
theorem ATy:∀ v,II v=AQ 0 Tryz.prog S0 ACQ Tryz.f82 ACP ACO ACN v:=by
 rintro⟨a0,⟨⟩⟩
 kernel_rfl
theorem Adf:AD (AT Tryz.f82) 0=[(0,AB Tryz.f82 0)]:=by kernel_rfl
theorem AOw:AR Tryz.prog 82 (AF 0 1 ACP ACO ACN LO):=AI N4 Tryz.func82 (by kernel_rfl) (by kernel_rfl) rfl (fun v=>(KX v).trans (ATy v)) (AA Adf ⟨AZg,trivial⟩)
def S1:Env:=S0.ext 82 true true (AF 0 1 ACP ACO ACN LO)
theorem N5:AZ Tryz.prog S1:=Env.Ah N4 AOw (fun _=>AO rfl rfl) (fun _=>AJ rfl rfl)
abbrev T4:Hints:={ loop:=fun n=>match n with|0=>Ac 0 19 ABF ABE ES|_=>fun _ _ _=>none }
theorem AFE:∀ v,ES v=roundOf Tryz.prog S1 T4 1 0 19 (AB Tryz.f68 0) ABF ABE v:=by
 rintro⟨a0,a1,a2,⟨⟩⟩
 kernel_rfl
theorem ASj:AD (AB Tryz.f68 0) 1=[]:=by kernel_rfl
theorem ASk:Aa Tryz.prog 0 (.loop (AB Tryz.f68 0)) (T4.loop 0):=AU N5 (AFE) (AA ASj trivial)
theorem ANM:∀ v,OP v=AQ 0 Tryz.prog S1 T4 Tryz.f68 T3 Tz Tx v:=by
 rintro⟨a0,a1,⟨⟩⟩
 kernel_rfl
theorem AYp:AD (AT Tryz.f68) 0=[(0,AB Tryz.f68 0)]:=by kernel_rfl
theorem AJZ:AR Tryz.prog 68 (AF 0 2 T3 Tz Tx I4):=AI N5 Tryz.func68 (by kernel_rfl) (by kernel_rfl) rfl (fun v=>(ABG v).trans (ANM v)) (AA AYp ⟨ASk,trivial⟩)
def Oz:Env:=S1.ext 68 true true (AF 0 2 T3 Tz Tx I4)
theorem MG:AZ Tryz.prog Oz:=Env.Ah N5 AJZ (fun _=>AO rfl rfl) (fun _=>AJ rfl rfl)
abbrev Tr:Hints:={ loop:=fun n=>match n with|0=>Ac 0 36 AAy AAx DZ|_=>fun _ _ _=>none,fp:=fun n=>match n with|6=>[[],[],[],[],[],[],[],[],[],[],[],[],[],[],[],[],[],[],[],[],[],[],[]]|_=>[] }
theorem AFC:∀ v,DZ v=roundOf Tryz.prog Oz Tr 1 0 36 (AB Tryz.f77 0) AAy AAx v:=by
 rintro⟨a0,a1,⟨⟩⟩
 kernel_rfl
theorem ASF:AD (AB Tryz.f77 0) 1=[]:=by kernel_rfl
theorem ASG:Aa Tryz.prog 0 (.loop (AB Tryz.f77 0)) (Tr.loop 0):=AU MG (AFC) (AA ASF trivial)
theorem ANE:∀ v,OM v=AQ 0 Tryz.prog Oz Tr Tryz.f77 Tq Tp To v:=by
 rintro⟨a0,⟨⟩⟩
 kernel_rfl
theorem AYc:AD (AT Tryz.f77) 0=[(0,AB Tryz.f77 0)]:=by kernel_rfl
theorem AJL:AR Tryz.prog 77 (AF 0 1 Tq Tp To HN):=AI MG Tryz.func77 (by kernel_rfl) (by kernel_rfl) rfl (fun v=>(AAz v).trans (ANE v)) (AA AYc ⟨ASG,trivial⟩)
def Oy:Env:=Oz.ext 77 true true (AF 0 1 Tq Tp To HN)
theorem MF:AZ Tryz.prog Oy:=Env.Ah MG AJL (fun _=>AO rfl rfl) (fun _=>AJ rfl rfl)
abbrev VI:Hints:={ loop:=fun n=>match n with|0=>Ac 0 27 ACU ACT Dc|_=>fun _ _ _=>none,fp:=fun n=>match n with|6=>[[],[],[],[],[],[],[],[],[],[]]|_=>[] }
theorem AFX:∀ v,Dc v=roundOf Tryz.prog Oy VI 1 0 27 (AB Tryz.f21 0) ACU ACT v:=by
 rintro⟨a0,a1,a2,⟨⟩⟩
 kernel_rfl
theorem ATz:AD (AB Tryz.f21 0) 1=[]:=by kernel_rfl
theorem AT0:Aa Tryz.prog 0 (.loop (AB Tryz.f21 0)) (VI.loop 0):=AU MF (AFX) (AA ATz trivial)
theorem AOy:∀ v,OS v=AQ 0 Tryz.prog Oy VI Tryz.f21 VH VG VF v:=by
 rintro⟨a0,a1,⟨⟩⟩
 kernel_rfl
theorem AZk:AD (AT Tryz.f21) 0=[(0,AB Tryz.f21 0)]:=by kernel_rfl
theorem AKN:AR Tryz.prog 21 (AF 0 2 VH VG VF LQ):=AI MF Tryz.func21 (by kernel_rfl) (by kernel_rfl) rfl (fun v=>(ACV v).trans (AOy v)) (AA AZk ⟨AT0,trivial⟩)
def O0:Env:=Oy.ext 21 true true (AF 0 2 VH VG VF LQ)
theorem MJ:AZ Tryz.prog O0:=Env.Ah MF AKN (fun _=>AO rfl rfl) (fun _=>AJ rfl rfl)
abbrev AAf:Hints:={ loop:=fun n=>match n with|0=>Ac 0 26 AGj AGi Fj|_=>fun _ _ _=>none,fp:=fun n=>match n with|6=>[[],[],[],[],[],[],[],[],[]]|_=>[] }
theorem AJI:∀ v,Fj v=roundOf Tryz.prog O0 AAf 1 0 26 (AB Tryz.f17 0) AGj AGi v:=by
 rintro⟨a0,a1,a2,⟨⟩⟩
 kernel_rfl
theorem AYR:AD (AB Tryz.f17 0) 1=[]:=by kernel_rfl
theorem AYS:Aa Tryz.prog 0 (.loop (AB Tryz.f17 0)) (AAf.loop 0):=AU MJ (AJI) (AA AYR trivial)
theorem AR4:∀ v,RL v=AQ 0 Tryz.prog O0 AAf Tryz.f17 AAe AAd AAc v:=by
 rintro⟨a0,a1,⟨⟩⟩
 kernel_rfl
theorem AcK:AD (AT Tryz.f17) 0=[(0,AB Tryz.f17 0)]:=by kernel_rfl
theorem AMy:AR Tryz.prog 17 (AF 0 2 AAe AAd AAc Pt):=AI MJ Tryz.func17 (by kernel_rfl) (by kernel_rfl) rfl (fun v=>(AGk v).trans (AR4 v)) (AA AcK ⟨AYS,trivial⟩)
def AEd:Env:=O0.ext 17 true true (AF 0 2 AAe AAd AAc Pt)
theorem X8:AZ Tryz.prog AEd:=Env.Ah MJ AMy (fun _=>AO rfl rfl) (fun _=>AJ rfl rfl)
abbrev Aih:Hints:={  }
theorem AfU:∀ v,AVv v=AQ 0 Tryz.prog AEd Aih Tryz.f58 Aba AbZ AbY v:=by
 rintro⟨a0,a1,⟨⟩⟩
 kernel_rfl
theorem Aig:AD (AT Tryz.f58) 0=[]:=by kernel_rfl
theorem AbX:AR Tryz.prog 58 (AF 0 2 Aba AbZ AbY tof):=AI X8 Tryz.func58 (by kernel_rfl) (by kernel_rfl) rfl (fun v=>(Abb v).trans (AfU v)) (AA Aig trivial)
def AfD:Env:=AEd.ext 58 true true (AF 0 2 Aba AbZ AbY tof)
theorem AQg:AZ Tryz.prog AfD:=Env.Ah X8 AbX (fun _=>AO rfl rfl) (fun _=>AJ rfl rfl)
abbrev AZn:Hints:={ fp:=fun n=>match n with|3=>[[0],[0],[0],[],[],[12],[],[],[3],[]]|_=>[] }
theorem AO0:∀ v,He v=AQ 0 Tryz.prog AfD AZn Tryz.f57 VN VM VL v:=by
 rintro⟨a0,a1,⟨⟩⟩
 kernel_rfl
theorem AZm:AD (AT Tryz.f57) 0=[]:=by kernel_rfl
theorem AKP:AR Tryz.prog 57 (AF 0 2 VN VM VL LS):=AI AQg Tryz.func57 (by kernel_rfl) (by kernel_rfl) rfl (fun v=>(LR v).trans (AO0 v)) (AA AZm trivial)
def AHz:Env:=AfD.ext 57 true true (AF 0 2 VN VM VL LS)
theorem ALl:AZ Tryz.prog AHz:=Env.Ah AQg AKP (fun _=>AO rfl rfl) (fun _=>AJ rfl rfl)
theorem Aer : (Tryz.f64.name == "runtime.NumGoroutine") = false := by kernel_rfl
theorem ALC:AEw Tryz.prog Tryz.f64 43 3 (.int .i64) where
 body:=by kernel_rfl
 nt:=by kernel_rfl
 res:=by kernel_rfl
 d:=⟨by kernel_rfl,by kernel_rfl,by kernel_rfl,by kernel_rfl,by kernel_rfl,by kernel_rfl,by kernel_rfl,by kernel_rfl⟩
 g:=⟨by kernel_rfl,by kernel_rfl,by kernel_rfl,by kernel_rfl,by kernel_rfl,by kernel_rfl,by kernel_rfl,by kernel_rfl⟩
 o00:=by kernel_rfl
 o10:=by kernel_rfl
 o11:=by kernel_rfl
 o20:=by kernel_rfl
 o30:=by kernel_rfl
 o31:=by kernel_rfl
 o32:=by kernel_rfl
 o33:=by kernel_rfl
 sl:=by kernel_rfl
 z:=by kernel_rfl
 by1:=by kernel_rfl
def AEs:Env:=AHz.ext 64 true true (Hg 3 (.int .i64))
theorem YI:AZ Tryz.prog AEs:=Env.Ah ALl (Aeq ALC Tryz.func64 Aer) (fun _=>MX _ _) (fun _=>(MX _ _).Ai5)
abbrev Afk:Hints:={ fp:=fun n=>match n with|1=>[[0],[0],[2],[2],[],[0],[0],[2],[2],[],[],[20],[]]|_=>[] }
theorem AYA:∀ v,Y3 v=AQ 0 Tryz.prog AEs Afk Tryz.f60 AIz AIy AIx v:=by
 rintro⟨a0,a1,⟨⟩⟩
 kernel_rfl
theorem Afj:AD (AT Tryz.f60) 0=[]:=by kernel_rfl
theorem ARk:AR Tryz.prog 60 (AF 0 2 AIz AIy AIx BQ):=AI YI Tryz.func60 (by kernel_rfl) (by kernel_rfl) rfl (fun v=>(AMh v).trans (AYA v)) (AA Afj trivial)
def Sl:Env:=AEs.ext 60 true true (AF 0 2 AIz AIy AIx BQ)
theorem MA:AZ Tryz.prog Sl:=Env.Ah YI ARk (fun _=>AO rfl rfl) (fun _=>AJ rfl rfl)
end
end Go.Pev
end
section
namespace Go.Pev
open Go.Proofs
noncomputable section
abbrev ACf:Hints:={ loop:=fun n=>match n with|0=>Ac 1 53 AW1 AWz AWx|1=>Ac 1 53 AW0 AWy AWw|_=>fun _ _ _=>none,fp:=fun n=>match n with|4=>[[],[],[],[],[],[],[],[0],[0],[],[],[],[0],[0],[],[],[]]|6=>[[],[],[],[],[],[],[],[],[0],[0],[],[],[0],[0],[0],[1],[0],[1]]|_=>[] }
theorem AUI:∀ v,AWw v=roundOf Tryz.prog Sl ACf 2 1 53 (AB Tryz.f115 1) AW0 AWy v:=by
 rintro⟨a0,a1,a2,a3,a4,⟨⟩⟩
 kernel_rfl
theorem Agn:AD (AB Tryz.f115 1) 2=[]:=by kernel_rfl
theorem Agp:Aa Tryz.prog 1 (.loop (AB Tryz.f115 1)) (ACf.loop 1):=AU MA (AUI) (AA Agn trivial)
theorem AUJ:∀ v,AWx v=roundOf Tryz.prog Sl ACf 1 1 53 (AB Tryz.f115 0) AW1 AWz v:=by
 rintro⟨a0,a1,a2,a3,⟨⟩⟩
 kernel_rfl
theorem Ago:AD (AB Tryz.f115 0) 1=[(1,AB Tryz.f115 1)]:=by kernel_rfl
theorem Agq:Aa Tryz.prog 1 (.loop (AB Tryz.f115 0)) (ACf.loop 0):=AU MA (AUJ) (AA Ago ⟨Agp,trivial⟩)
theorem Ads:∀ v,Adt v=AQ 1 Tryz.prog Sl ACf Tryz.f115 AUM AUL AUK v:=by
 rintro⟨a0,a1,a2,⟨⟩⟩
 kernel_rfl
theorem AiO:AD (AT Tryz.f115) 0=[(0,AB Tryz.f115 0)]:=by kernel_rfl
theorem AZw:AR Tryz.prog 115 (AF 1 4 AUM AUL AUK AiP):=AI MA Tryz.func115 (by kernel_rfl) (by kernel_rfl) rfl (fun v=>(Agr v).trans (Ads v)) (AA AiO ⟨Agq,trivial⟩)
def ALo:Env:=Sl.CH 115 3 60 (AF 1 4 AUM AUL AUK AiP)
theorem Wx:AZ Tryz.prog ALo:=Env.Az MA AZw (AJ rfl rfl)
abbrev AI8:Hints:={ loop:=fun n=>match n with|0=>Ac 1 82 AMp AMo AMn|_=>fun _ _ _=>none,fp:=fun n=>match n with|6=>[[],[],[],[],[],[],[],[],[],[],[],[],[0],[0],[],[],[],[],[0],[0],[0],[1],[0],[1]]|5=>[[],[],[],[],[],[0],[0],[],[],[],[],[0],[0],[],[],[]]|3=>[[],[],[],[],[],[],[],[],[],[],[0],[0],[],[],[],[],[],[0],[0],[],[],[]]|_=>[] }
theorem AMm:∀ v,AMn v=roundOf Tryz.prog ALo AI8 1 1 82 (AB Tryz.f135 0) AMp AMo v:=by
 rintro⟨a0,a1,a2,a3,⟨⟩⟩
 kernel_rfl
theorem Ab8:AD (AB Tryz.f135 0) 1=[]:=by kernel_rfl
theorem Ab9:Aa Tryz.prog 1 (.loop (AB Tryz.f135 0)) (AI8.loop 0):=AU Wx (AMm) (AA Ab8 trivial)
theorem AYD:∀ v,AWC v=AQ 1 Tryz.prog ALo AI8 Tryz.f135 AI7 AI6 AI5 v:=by
 rintro⟨a0,a1,a2,a3,⟨⟩⟩
 kernel_rfl
theorem Afq:AD (AT Tryz.f135) 0=[(0,AB Tryz.f135 0)]:=by kernel_rfl
theorem ARt:AR Tryz.prog 135 (AF 1 5 AI7 AI6 AI5 AcB):=AI Wx Tryz.func135 (by kernel_rfl) (by kernel_rfl) rfl (fun v=>(AcA v).trans (AYD v)) (AA Afq ⟨Ab9,trivial⟩)
def Sn:Env:=ALo.CH 135 4 60 (AF 1 5 AI7 AI6 AI5 AcB)
theorem MD:AZ Tryz.prog Sn:=Env.Az Wx ARt (AJ rfl rfl)
abbrev R7:Hints:={ loop:=fun n=>match n with|0=>Ac 1 60 APQ APO APM|1=>Ac 1 60 APP APN APK|_=>fun _ _ _=>none,fp:=fun n=>match n with|10=>[[],[],[],[],[],[],[],[],[],[],[0],[0],[],[],[0],[0],[0],[1],[0],[1]]|_=>[] }
theorem APJ:∀ v,APK v=roundOf Tryz.prog Sn R7 2 1 60 (AB Tryz.f116 1) APP APN v:=by
 rintro⟨a0,a1,a2,a3,⟨⟩⟩
 kernel_rfl
theorem AeB:AD (AB Tryz.f116 1) 2=[]:=by kernel_rfl
theorem AeD:Aa Tryz.prog 1 (.loop (AB Tryz.f116 1)) (R7.loop 1):=AU MD (APJ) (AA AeB trivial)
theorem APL:∀ v,APM v=roundOf Tryz.prog Sn R7 1 1 60 (AB Tryz.f116 0) APQ APO v:=by
 rintro⟨a0,a1,a2,a3,a4,⟨⟩⟩
 kernel_rfl
theorem AeC:AD (AB Tryz.f116 0) 1=[]:=by kernel_rfl
theorem AeE:Aa Tryz.prog 1 (.loop (AB Tryz.f116 0)) (R7.loop 0):=AU MD (APL) (AA AeC trivial)
theorem AZ8:∀ v,AW6 v=AQ 1 Tryz.prog Sn R7 Tryz.f116 AKi AKh AKg v:=by
 rintro⟨a0,a1,a2,⟨⟩⟩
 kernel_rfl
theorem Agx:AD (AT Tryz.f116) 0=[(0,AB Tryz.f116 0),(1,AB Tryz.f116 1)]:=by kernel_rfl
theorem AUR:AR Tryz.prog 116 (AF 1 4 AKi AKh AKg AeG):=AI MD Tryz.func116 (by kernel_rfl) (by kernel_rfl) rfl (fun v=>(AeF v).trans (AZ8 v)) (AA Agx ⟨AeE,AeD,trivial⟩)
def ZM:Env:=Sn.CH 116 3 60 (AF 1 4 AKi AKh AKg AeG)
theorem Qn:AZ Tryz.prog ZM:=Env.Az MD AUR (AJ rfl rfl)
abbrev AEH:Hints:={ loop:=fun n=>match n with|0=>Ac 1 67 AHh AHg AHf|_=>fun _ _ _=>none,fp:=fun n=>match n with|10=>[[],[],[],[],[],[],[],[],[],[],[0],[0],[],[],[0],[0],[0],[1],[0],[1]]|_=>[] }
theorem ALP:∀ v,AHf v=roundOf Tryz.prog ZM AEH 1 1 67 (AB Tryz.f117 0) AHh AHg v:=by
 rintro⟨a0,a1,a2,a3,a4,a5,⟨⟩⟩
 kernel_rfl
theorem Aas:AD (AB Tryz.f117 0) 1=[]:=by kernel_rfl
theorem Aat:Aa Tryz.prog 1 (.loop (AB Tryz.f117 0)) (AEH.loop 0):=AU Qn (ALP) (AA Aas trivial)
theorem AVX:∀ v,AQQ v=AQ 1 Tryz.prog ZM AEH Tryz.f117 AEG AEF AEE v:=by
 rintro⟨a0,a1,a2,⟨⟩⟩
 kernel_rfl
theorem Aex:AD (AT Tryz.f117) 0=[(0,AB Tryz.f117 0)]:=by kernel_rfl
theorem AQP:AR Tryz.prog 117 (AF 1 4 AEG AEF AEE AVY):=AI Qn Tryz.func117 (by kernel_rfl) (by kernel_rfl) rfl (fun v=>(Aau v).trans (AVX v)) (AA Aex ⟨Aat,trivial⟩)
def AEu:Env:=ZM.CH 117 3 60 (AF 1 4 AEG AEF AEE AVY)
theorem YK:AZ Tryz.prog AEu:=Env.Az Qn AQP (AJ rfl rfl)
abbrev AZB:Hints:={ fp:=fun n=>match n with|1=>[[],[],[],[0],[0],[],[],[0],[0],[],[]]|_=>[] }
theorem AOc:∀ v,AG7 v=AQ 2 Tryz.prog AEu AZB Tryz.f155 UI UH UG v:=by
 rintro⟨a0,a1,a2,a3,⟨⟩⟩
 kernel_rfl
theorem AZA:AD (AT Tryz.f155) 0=[]:=by kernel_rfl
theorem AJw:AR Tryz.prog 155 (AF 2 5 UI UH UG AJx):=AI YK Tryz.func155 (by kernel_rfl) (by kernel_rfl) rfl (fun v=>(ATM v).trans (AOc v)) (AA AZA trivial)
def Wr:Env:=AEu.CH 155 4 60 (AF 2 5 UI UH UG AJx)
theorem Su:AZ Tryz.prog Wr:=Env.Az YK AJw (AJ rfl rfl)
abbrev AZS:Hints:={  }
theorem AOl:∀ v,AHA v=AQ 2 Tryz.prog Wr AZS Tryz.f139 UT US UR v:=by
 rintro⟨a0,a1,a2,a3,a4,⟨⟩⟩
 kernel_rfl
theorem AZR:AD (AT Tryz.f139) 0=[]:=by kernel_rfl
theorem AJ8:AR Tryz.prog 139 (AF 2 6 UT US UR AJ9):=AI Su Tryz.func139 (by kernel_rfl) (by kernel_rfl) rfl (fun v=>(ATk v).trans (AOl v)) (AA AZR trivial)
def Wt:Env:=Wr.CH 139 5 60 (AF 2 6 UT US UR AJ9)
theorem Sw:AZ Tryz.prog Wt:=Env.Az Su AJ8 (AJ rfl rfl)
abbrev AZW:Hints:={  }
theorem AOn:∀ v,AHC v=AQ 2 Tryz.prog Wt AZW Tryz.f138 VA UZ UY v:=by
 rintro⟨a0,a1,a2,⟨⟩⟩
 kernel_rfl
theorem AZV:AD (AT Tryz.f138) 0=[]:=by kernel_rfl
theorem AKC:AR Tryz.prog 138 (AF 2 4 VA UZ UY AKD):=AI Sw Tryz.func138 (by kernel_rfl) (by kernel_rfl) rfl (fun v=>(ATn v).trans (AOn v)) (AA AZV trivial)
def Wv:Env:=Wt.CH 138 3 60 (AF 2 4 VA UZ UY AKD)
theorem Sy:AZ Tryz.prog Wv:=Env.Az Sw AKC (AJ rfl rfl)
abbrev Ack:Hints:={  }
theorem ASo:∀ v,ANQ v=AQ 1 Tryz.prog Wv Ack Tryz.f118 ABN ABM ABL v:=by
 rintro⟨a0,a1,a2,⟨⟩⟩
 kernel_rfl
theorem Acj:AD (AT Tryz.f118) 0=[]:=by kernel_rfl
theorem ANP:AR Tryz.prog 118 (AF 1 4 ABN ABM ABL ASp):=AI Sy Tryz.func118 (by kernel_rfl) (by kernel_rfl) rfl (fun v=>(AYs v).trans (ASo v)) (AA Acj trivial)
def Sr:Env:=Wv.CH 118 3 60 (AF 1 4 ABN ABM ABL ASp)
theorem N3:AZ Tryz.prog Sr:=Env.Az Sy ANP (AJ rfl rfl)
abbrev ASR:Hints:={ loop:=fun n=>match n with|0=>Ac 1 34 AWP AWO AWN|_=>fun _ _ _=>none,fp:=fun n=>match n with|3=>[[],[],[],[],[],[],[0],[0],[],[],[0],[0],[0],[1],[0],[1]]|_=>[] }
theorem ASN:∀ v,AWN v=roundOf Tryz.prog Sr ASR 1 1 34 (AB Tryz.f119 0) AWP AWO v:=by
 rintro⟨a0,a1,a2,⟨⟩⟩
 kernel_rfl
theorem Af6:AD (AB Tryz.f119 0) 1=[]:=by kernel_rfl
theorem Af7:Aa Tryz.prog 1 (.loop (AB Tryz.f119 0)) (ASR.loop 0):=AU N3 (ASN) (AA Af6 trivial)
theorem AcV:∀ v,AcW v=AQ 1 Tryz.prog Sr ASR Tryz.f119 ASQ ASP ASO v:=by
 rintro⟨a0,a1,a2,⟨⟩⟩
 kernel_rfl
theorem Ah1:AD (AT Tryz.f119) 0=[(0,AB Tryz.f119 0)]:=by kernel_rfl
theorem AYh:AR Tryz.prog 119 (AF 1 4 ASQ ASP ASO Ah2):=AI N3 Tryz.func119 (by kernel_rfl) (by kernel_rfl) rfl (fun v=>(Af8 v).trans (AcV v)) (AA Ah1 ⟨Af7,trivial⟩)
def Ql:Env:=Sr.CH 119 3 60 (AF 1 4 ASQ ASP ASO Ah2)
theorem Hl:AZ Tryz.prog Ql:=Env.Az N3 AYh (AJ rfl rfl)
abbrev C4:Hints:={ loop:=fun n=>match n with|0=>Ac 1 141 Xj Xf Xb|1=>Ac 1 141 Xi Xe Xa|2=>Ac 1 141 Xh Xd XZ|3=>Ac 1 141 Xg Xc XY|_=>fun _ _ _=>none,fp:=fun n=>match n with|11=>[[],[],[],[],[],[],[],[],[0],[0],[],[],[0],[0],[0],[1],[0],[1]]|5=>[[],[],[],[],[],[],[],[0],[0],[],[],[],[0],[0],[],[],[],[]]|17=>[[],[],[],[],[],[],[],[],[0],[0],[],[],[0],[0],[0],[1],[0],[1]]|16=>[[],[],[],[0],[0],[],[],[],[0],[0],[],[],[]]|23=>[[],[],[],[],[],[],[],[],[0],[0],[],[],[0],[0],[0],[1],[0],[1]]|22=>[[],[],[],[0],[0],[],[],[],[0],[0],[],[],[]]|_=>[] }
theorem ABi:∀ v,XY v=roundOf Tryz.prog Ql C4 4 1 141 (AB Tryz.f120 3) Xg Xc v:=by
 rintro⟨a0,a1,a2,a3,a4,a5,⟨⟩⟩
 kernel_rfl
theorem AN0:AD (AB Tryz.f120 3) 4=[]:=by kernel_rfl
theorem AN4:Aa Tryz.prog 1 (.loop (AB Tryz.f120 3)) (C4.loop 3):=AU Hl (ABi) (AA AN0 trivial)
theorem ABj:∀ v,XZ v=roundOf Tryz.prog Ql C4 3 1 141 (AB Tryz.f120 2) Xh Xd v:=by
 rintro⟨a0,a1,a2,a3,a4,a5,⟨⟩⟩
 kernel_rfl
theorem AN1:AD (AB Tryz.f120 2) 3=[]:=by kernel_rfl
theorem AN5:Aa Tryz.prog 1 (.loop (AB Tryz.f120 2)) (C4.loop 2):=AU Hl (ABj) (AA AN1 trivial)
theorem ABk:∀ v,Xa v=roundOf Tryz.prog Ql C4 2 1 141 (AB Tryz.f120 1) Xi Xe v:=by
 rintro⟨a0,a1,a2,a3,a4,⟨⟩⟩
 kernel_rfl
theorem AN2:AD (AB Tryz.f120 1) 2=[]:=by kernel_rfl
theorem AN6:Aa Tryz.prog 1 (.loop (AB Tryz.f120 1)) (C4.loop 1):=AU Hl (ABk) (AA AN2 trivial)
theorem ABl:∀ v,Xb v=roundOf Tryz.prog Ql C4 1 1 141 (AB Tryz.f120 0) Xj Xf v:=by
 rintro⟨a0,a1,a2,a3,a4,⟨⟩⟩
 kernel_rfl
theorem AN3:AD (AB Tryz.f120 0) 1=[(1,AB Tryz.f120 1),(2,AB Tryz.f120 2),(3,AB Tryz.f120 3)]:=by kernel_rfl
theorem AN7:Aa Tryz.prog 1 (.loop (AB Tryz.f120 0)) (C4.loop 0):=AU Hl (ABl) (AA AN3 ⟨AN6,AN5,AN4,trivial⟩)
theorem AJl:∀ v,ABm v=AQ 1 Tryz.prog Ql C4 Tryz.f120 P1 Pz Py v:=by
 rintro⟨a0,a1,a2,⟨⟩⟩
 kernel_rfl
theorem AS2:AD (AT Tryz.f120) 0=[(0,AB Tryz.f120 0)]:=by kernel_rfl
theorem AFL:AR Tryz.prog 120 (AF 1 4 P1 Pz Py ABn):=AI Hl Tryz.func120 (by kernel_rfl) (by kernel_rfl) rfl (fun v=>(AN8 v).trans (AJl v)) (AA AS2 ⟨AN7,trivial⟩)
def GQ:Env:=Ql.CH 120 3 60 (AF 1 4 P1 Pz Py ABn)
theorem EG:AZ Tryz.prog GQ:=Env.Az Hl AFL (AJ rfl rfl)
abbrev Fu:Hints:={ loop:=fun n=>match n with|0=>Ac 1 90 AB6 AB3 AB0|1=>Ac 1 90 AB5 AB2 ABz|2=>Ac 1 90 AB4 AB1 ABy|_=>fun _ _ _=>none,fp:=fun n=>match n with|8=>[[],[],[],[],[],[],[0],[0],[],[],[0],[0],[0],[1],[0],[1]]|3=>[[],[],[],[],[],[],[],[0],[0],[],[],[0],[0],[],[],[],[]]|5=>[[],[],[],[],[],[],[],[0],[0],[],[],[0],[0],[],[],[]]|1=>[[],[],[],[],[],[],[0],[0],[],[],[0],[0],[0],[1],[0],[1]]|_=>[] }
theorem AFR:∀ v,ABy v=roundOf Tryz.prog GQ Fu 3 1 90 (AB Tryz.f121 2) AB4 AB1 v:=by
 rintro⟨a0,a1,a2,a3,⟨⟩⟩
 kernel_rfl
theorem ATC:AD (AB Tryz.f121 2) 3=[]:=by kernel_rfl
theorem ATF:Aa Tryz.prog 1 (.loop (AB Tryz.f121 2)) (Fu.loop 2):=AU EG (AFR) (AA ATC trivial)
theorem AFS:∀ v,ABz v=roundOf Tryz.prog GQ Fu 2 1 90 (AB Tryz.f121 1) AB5 AB2 v:=by
 rintro⟨a0,a1,a2,a3,⟨⟩⟩
 kernel_rfl
theorem ATD:AD (AB Tryz.f121 1) 2=[]:=by kernel_rfl
theorem ATG:Aa Tryz.prog 1 (.loop (AB Tryz.f121 1)) (Fu.loop 1):=AU EG (AFS) (AA ATD trivial)
theorem AFT:∀ v,AB0 v=roundOf Tryz.prog GQ Fu 1 1 90 (AB Tryz.f121 0) AB6 AB3 v:=by
 rintro⟨a0,a1,a2,a3,⟨⟩⟩
 kernel_rfl
theorem ATE:AD (AB Tryz.f121 0) 1=[(1,AB Tryz.f121 1),(2,AB Tryz.f121 2)]:=by kernel_rfl
theorem ATH:Aa Tryz.prog 1 (.loop (AB Tryz.f121 0)) (Fu.loop 0):=AU EG (AFT) (AA ATE ⟨ATG,ATF,trivial⟩)
theorem AOF:∀ v,AG2 v=AQ 1 Tryz.prog GQ Fu Tryz.f121 UB UA T9 v:=by
 rintro⟨a0,a1,a2,a3,⟨⟩⟩
 kernel_rfl
theorem AY4:AD (AT Tryz.f121) 0=[(0,AB Tryz.f121 0)]:=by kernel_rfl
theorem AJp:AR Tryz.prog 121 (AF 1 5 UB UA T9 AJq):=AI EG Tryz.func121 (by kernel_rfl) (by kernel_rfl) rfl (fun v=>(ATI v).trans (AOF v)) (AA AY4 ⟨ATH,trivial⟩)
def E6:Env:=GQ.CH 121 4 60 (AF 1 5 UB UA T9 AJq)
theorem DG:AZ Tryz.prog E6:=Env.Az EG AJp (AJ rfl rfl)
abbrev FA:Hints:={ loop:=fun n=>match n with|0=>Ac 1 178 AOZ AOU AOP|1=>Ac 1 178 AOY AOT AON|2=>Ac 1 178 AOX AOS AOL|3=>Ac 1 178 AOW AOR AOJ|4=>Ac 1 178 AOV AOQ AOH|_=>fun _ _ _=>none,fp:=fun n=>match n with|3=>[[],[],[],[],[],[],[],[0],[0],[],[],[0],[0],[],[],[]]|5=>[[],[],[],[],[],[],[],[0],[0],[],[],[0],[0],[],[],[],[]]|18=>[[],[],[],[],[],[],[0],[0],[],[],[0],[0],[0],[1],[0],[1]]|13=>[[],[],[],[],[],[],[],[0],[0],[],[],[0],[0],[],[],[]]|15=>[[],[],[],[],[],[],[],[0],[0],[],[],[0],[0],[],[],[],[]]|21=>[[],[],[],[],[],[],[0],[0],[],[],[0],[0],[0],[1],[0],[1]]|10=>[[],[],[],[],[],[],[0],[0],[],[],[0],[0],[0],[1],[0],[1]]|8=>[[],[],[],[],[],[],[0],[0],[],[],[0],[0],[0],[1],[0],[1]]|1=>[[],[],[],[],[],[],[0],[0],[],[],[0],[0],[0],[1],[0],[1]]|_=>[] }
theorem AOG:∀ v,AOH v=roundOf Tryz.prog E6 FA 5 1 178 (AB Tryz.f122 4) AOV AOQ v:=by
 rintro⟨a0,a1,a2,a3,⟨⟩⟩
 kernel_rfl
theorem Ac4:AD (AB Tryz.f122 4) 5=[]:=by kernel_rfl
theorem Ac9:Aa Tryz.prog 1 (.loop (AB Tryz.f122 4)) (FA.loop 4):=AU DG (AOG) (AA Ac4 trivial)
theorem AOI:∀ v,AOJ v=roundOf Tryz.prog E6 FA 4 1 178 (AB Tryz.f122 3) AOW AOR v:=by
 rintro⟨a0,a1,a2,a3,⟨⟩⟩
 kernel_rfl
theorem Ac5:AD (AB Tryz.f122 3) 4=[]:=by kernel_rfl
theorem AdA:Aa Tryz.prog 1 (.loop (AB Tryz.f122 3)) (FA.loop 3):=AU DG (AOI) (AA Ac5 trivial)
theorem AOK:∀ v,AOL v=roundOf Tryz.prog E6 FA 3 1 178 (AB Tryz.f122 2) AOX AOS v:=by
 rintro⟨a0,a1,a2,a3,⟨⟩⟩
 kernel_rfl
theorem Ac6:AD (AB Tryz.f122 2) 3=[(3,AB Tryz.f122 3),(4,AB Tryz.f122 4)]:=by kernel_rfl
theorem AdB:Aa Tryz.prog 1 (.loop (AB Tryz.f122 2)) (FA.loop 2):=AU DG (AOK) (AA Ac6 ⟨AdA,Ac9,trivial⟩)
theorem AOM:∀ v,AON v=roundOf Tryz.prog E6 FA 2 1 178 (AB Tryz.f122 1) AOY AOT v:=by
 rintro⟨a0,a1,a2,a3,⟨⟩⟩
 kernel_rfl
theorem Ac7:AD (AB Tryz.f122 1) 2=[]:=by kernel_rfl
theorem AdC:Aa Tryz.prog 1 (.loop (AB Tryz.f122 1)) (FA.loop 1):=AU DG (AOM) (AA Ac7 trivial)
theorem AOO:∀ v,AOP v=roundOf Tryz.prog E6 FA 1 1 178 (AB Tryz.f122 0) AOZ AOU v:=by
 rintro⟨a0,a1,a2,a3,⟨⟩⟩
 kernel_rfl
theorem Ac8:AD (AB Tryz.f122 0) 1=[]:=by kernel_rfl
theorem AdD:Aa Tryz.prog 1 (.loop (AB Tryz.f122 0)) (FA.loop 0):=AU DG (AOO) (AA Ac8 trivial)
theorem AY5:∀ v,AWc v=AQ 1 Tryz.prog E6 FA Tryz.f122 AJt AJs AJr v:=by
 rintro⟨a0,a1,a2,a3,⟨⟩⟩
 kernel_rfl
theorem AgK:AD (AT Tryz.f122) 0=[(0,AB Tryz.f122 0),(1,AB Tryz.f122 1),(2,AB Tryz.f122 2)]:=by kernel_rfl
theorem ATJ:AR Tryz.prog 122 (AF 1 5 AJt AJs AJr AdF):=AI DG Tryz.func122 (by kernel_rfl) (by kernel_rfl) rfl (fun v=>(AdE v).trans (AY5 v)) (AA AgK ⟨AdD,AdC,AdB,trivial⟩)
def ALk:Env:=E6.CH 122 4 60 (AF 1 5 AJt AJs AJr AdF)
theorem AEk:AZ Tryz.prog ALk:=Env.Az DG ATJ (AJ rfl rfl)
end
end Go.Pev
end
section
namespace Go.Pev
open Go.Proofs
noncomputable section
abbrev ASy(self:(List (Int×Int×Unit)×Int×Int×Int×Unit)→Option ((List (Int×Int×Unit)×Unit))):Hints:={ loop:=fun n=>match n with|0=>Ac 1 148 AWa AWZ (AWY self)|_=>fun _ _ _=>none,fp:=fun n=>match n with|17=>[[],[],[],[],[],[],[],[0],[0],[],[],[0],[0],[],[],[],[]]|_=>[] }
abbrev AJf(self:(List (Int×Int×Unit)×Int×Int×Int×Unit)→Option ((List (Int×Int×Unit)×Unit))):Env:=ALk.ext 88 false true (AF 1 5 ABa ABZ ABY self)
theorem ASx(self:(List (Int×Int×Unit)×Int×Int×Int×Unit)→Option ((List (Int×Int×Unit)×Unit))):∀ v,AWY self v=roundOf Tryz.prog (AJf self) (ASy self) 1 1 148 (AB Tryz.f88 0) AWa AWZ v:=by
 rintro⟨a0,a1,a2,a3,a4,a5,⟨⟩⟩
 kernel_rfl
theorem AgF:AD (AB Tryz.f88 0) 1=[]:=by kernel_rfl
theorem AgG(self:(List (Int×Int×Unit)×Int×Int×Int×Unit)→Option ((List (Int×Int×Unit)×Unit)))(hE:AZ Tryz.prog (AJf self)):Aa Tryz.prog 1 (.loop (AB Tryz.f88 0)) ((ASy self).loop 0):=AU hE (ASx self) (AA AgF trivial)
theorem Acp(self:(List (Int×Int×Unit)×Int×Int×Int×Unit)→Option ((List (Int×Int×Unit)×Unit))):∀ v,Ah8 self v=AQ 1 Tryz.prog (AJf self) (ASy self) Tryz.f88 ABa ABZ ABY v:=by
 rintro⟨a0,a1,a2,a3,⟨⟩⟩
 kernel_rfl
theorem Ah7:AD (AT Tryz.f88) 0=[(0,AB Tryz.f88 0)]:=by kernel_rfl
theorem ASz:∀ n,AR Tryz.prog 88 (AF 1 5 ABa ABZ ABY (ABb n)):=by
 intro n
 induction n with
 |zero=>exact Xl fun _=>rfl
 |succ n ih=>
  have hE:AZ Tryz.prog (AJf (ABb n)):=Env.Ah AEk ih ((by simp)) (fun _=>AJ rfl rfl)
  let self:=ABb n
  exact AI hE Tryz.func88 (by kernel_rfl) (by kernel_rfl) rfl (Acp self) (AA Ah7 ⟨(AgG self hE),trivial⟩)
theorem AY0:AR Tryz.prog 88 (AF 1 5 ABa ABZ ABY AgI):=by
 have e:AgI=ABb 100:=funext AgH
 rw[e]
 exact ASz _
def AVo:Env:=ALk.CH 88 4 60 (AF 1 5 ABa ABZ ABY AgI)
theorem AHu:AZ Tryz.prog AVo:=Env.Az AEk AY0 (AJ rfl rfl)
abbrev Afi:Hints:={  }
theorem AX6:∀ v,AV4 v=AQ 1 Tryz.prog AVo Afi Tryz.f59 AIt AIs AIr v:=by
 rintro⟨a0,⟨⟩⟩
 kernel_rfl
theorem Afh:AD (AT Tryz.f59) 0=[]:=by kernel_rfl
theorem ARe:AR Tryz.prog 59 (AF 1 2 AIt AIs AIr AGV):=AI AHu Tryz.func59 (by kernel_rfl) (by kernel_rfl) rfl (fun v=>(Ab0 v).trans (AX6 v)) (AA Afh trivial)
def ALh:Env:=AVo.CH 59 1 60 (AF 1 2 AIt AIs AIr AGV)
theorem AEb:AZ Tryz.prog ALh:=Env.Az AHu ARe (AJ rfl rfl)
abbrev Aep:Hints:={  }
theorem AU6:∀ v,SW v=AQ 0 Tryz.prog ALh Aep Tryz.f75 ADk ADj ADi v:=by
 rintro⟨a0,a1,⟨⟩⟩
 kernel_rfl
theorem Aeo:AD (AT Tryz.f75) 0=[]:=by kernel_rfl
theorem AP6:AR Tryz.prog 75 (AF 0 2 ADk ADj ADi WN):=AI AEb Tryz.func75 (by kernel_rfl) (by kernel_rfl) rfl (fun v=>(AHa v).trans (AU6 v)) (AA Aeo trivial)
def AEr:Env:=ALh.ext 75 true true (AF 0 2 ADk ADj ADi WN)
theorem YH:AZ Tryz.prog AEr:=Env.Ah AEb AP6 (fun _=>AO rfl rfl) (fun _=>AJ rfl rfl)
abbrev Ahj:Hints:={  }
theorem AbA:∀ v,AIC v=AQ 0 Tryz.prog AEr Ahj Tryz.f98 AQp AQo AQn v:=by
 rintro⟨a0,⟨⟩⟩
 kernel_rfl
theorem Ahi:AD (AT Tryz.f98) 0=[]:=by kernel_rfl
theorem AXc:AR Tryz.prog 98 (AF 0 1 AQp AQo AQn AQq):=AI YH Tryz.func98 (by kernel_rfl) (by kernel_rfl) rfl (fun v=>(AVu v).trans (AbA v)) (AA Ahi trivial)
def AVi:Env:=AEr.ext 98 true true (AF 0 1 AQp AQo AQn AQq)
theorem AHo:AZ Tryz.prog AVi:=Env.Ah YH AXc (fun _=>AO rfl rfl) (fun _=>AJ rfl rfl)
abbrev Aaj:Hints:={  }
theorem AQF:∀ v,Oh v=AQ 0 Tryz.prog AVi Aaj Tryz.f74 WW WV WU v:=by
 rintro⟨a0,⟨⟩⟩
 kernel_rfl
theorem Aai:AD (AT Tryz.f74) 0=[]:=by kernel_rfl
theorem ALI:AR Tryz.prog 74 (AF 0 1 WW WV WU SX):=AI AHo Tryz.func74 (by kernel_rfl) (by kernel_rfl) rfl (fun v=>(ADo v).trans (AQF v)) (AA Aai trivial)
def W3:Env:=AVi.ext 74 true true (AF 0 1 WW WV WU SX)
theorem S8:AZ Tryz.prog W3:=Env.Ah AHo ALI (fun _=>AO rfl rfl) (fun _=>AJ rfl rfl)
abbrev AbI:Hints:={  }
theorem AQu:∀ v,Qz v=AQ 0 Tryz.prog W3 AbI Tryz.f71 Za ZZ ZY v:=by
 rintro⟨a0,⟨⟩⟩
 kernel_rfl
theorem AbH:AD (AT Tryz.f71) 0=[]:=by kernel_rfl
theorem AL9:AR Tryz.prog 71 (AF 0 1 Za ZZ ZY Zb):=AI S8 Tryz.func71 (by kernel_rfl) (by kernel_rfl) rfl (fun v=>(AGC v).trans (AQu v)) (AA AbH trivial)
def AEW:Env:=W3.ext 71 true true (AF 0 1 Za ZZ ZY Zb)
theorem X3:AZ Tryz.prog AEW:=Env.Ah S8 AL9 (fun _=>AO rfl rfl) (fun _=>AJ rfl rfl)
theorem AQ1:Tryz.f70.body.isSome=true:=by kernel_rfl
theorem AQ0 : (Tryz.f70.name == "runtime.NumGoroutine") = false := by kernel_rfl
theorem AQz:loops (AT Tryz.f70)=0:=by kernel_rfl
def HT:Env:=AEW.ext 70 false false (DJ Tryz.prog AEW {} Tryz.f70)
theorem HD:AZ Tryz.prog HT:=Env.Ah X3 (Cv X3 Tryz.func70 AQ1 AQ0 AQz) (by simp) (by simp)
abbrev Jr:Hints:={ loop:=fun n=>match n with|0=>Ac 0 19 NY NW CO|_=>fun _ _ _=>none }
theorem R1:∀ v,CO v=roundOf Tryz.prog HT Jr 1 0 19 (AB Tryz.f91 0) NY NW v:=by
 rintro⟨a0,a1,a2,⟨⟩⟩
 kernel_rfl
theorem ACo:AD (AB Tryz.f91 0) 1=[]:=by kernel_rfl
theorem ACp:Aa Tryz.prog 0 (.loop (AB Tryz.f91 0)) (Jr.loop 0):=AU HD (R1) (AA ACo trivial)
theorem Yb:∀ v,Gf v=AQ 0 Tryz.prog HT Jr Tryz.f91 Jq Jp Jo v:=by
 rintro⟨a0,⟨⟩⟩
 kernel_rfl
theorem AFb:AD (AT Tryz.f91) 0=[(0,AB Tryz.f91 0)]:=by kernel_rfl
theorem VT:AR Tryz.prog 91 (AF 0 2 Jq Jp Jo JF):=AI HD Tryz.func91 (by kernel_rfl) (by kernel_rfl) rfl (fun v=>(NZ v).trans (Yb v)) (AA AFb ⟨ACp,trivial⟩)
def KA:Env:=HT.CH 91 1 70 (AF 0 2 Jq Jp Jo JF)
theorem Km:AZ Tryz.prog KA:=Env.Az HD VT (AJ rfl rfl)
abbrev ADY:Hints:={  }
theorem WI:∀ v,FQ v=AQ 0 Tryz.prog KA ADY Tryz.f73 Ia IZ IY v:=by
 rintro⟨a0,⟨⟩⟩
 kernel_rfl
theorem ADX:AD (AT Tryz.f73) 0=[]:=by kernel_rfl
theorem SS:AR Tryz.prog 73 (AF 0 2 Ia IZ IY FT):=AI Km Tryz.func73 (by kernel_rfl) (by kernel_rfl) rfl (fun v=>(MV v).trans (WI v)) (AA ADX trivial)
def Iq:Env:=KA.CH 73 1 70 (AF 0 2 Ia IZ IY FT)
theorem Ja:AZ Tryz.prog Iq:=Env.Az Km SS (AJ rfl rfl)
abbrev KF:Hints:={ loop:=fun n=>match n with|0=>Ac 0 78 Zg Ze EM|1=>Ac 0 78 Zf Zd Cz|_=>fun _ _ _=>none,fp:=fun n=>match n with|12=>[[2],[2],[],[],[],[],[],[10],[10],[8],[9,12]]|5=>[[],[],[],[],[],[],[],[],[37]]|_=>[] }
def OD:Env:={ Iq with keep:=false,rows:=false,arrs:=true }
theorem Ku:AZ Tryz.prog OD:=Ja
theorem AE1:∀ v,Cz v=roundOf Tryz.prog OD KF 2 0 78 (AB Tryz.f39 1) Zf Zd v:=by
 rintro⟨a0,a1,a2,a3,a4,a5,a6,a7,a8,a9,a10,⟨⟩⟩
 kernel_rfl
theorem AQv:AD (AB Tryz.f39 1) 2=[]:=by kernel_rfl
theorem AQx:Aa Tryz.prog 0 (.loop (AB Tryz.f39 1)) (KF.loop 1):=AU Ku (AE1) (AA AQv trivial)
theorem AE2:∀ v,EM v=roundOf Tryz.prog OD KF 1 0 78 (AB Tryz.f39 0) Zg Ze v:=by
 rintro⟨a0,a1,a2,a3,a4,a5,a6,a7,⟨⟩⟩
 kernel_rfl
theorem AQw:AD (AB Tryz.f39 0) 1=[(1,AB Tryz.f39 1)]:=by kernel_rfl
theorem AQy:Aa Tryz.prog 0 (.loop (AB Tryz.f39 0)) (KF.loop 0):=AU Ku (AE2) (AA AQw ⟨AQx,trivial⟩)
theorem AMB:∀ v,OC v=AQ 0 Tryz.prog OD KF Tryz.f39 TN TM TL v:=by
 rintro⟨a0,a1,⟨⟩⟩
 kernel_rfl
theorem AXg:AD (AT Tryz.f39) 0=[(0,AB Tryz.f39 0)]:=by kernel_rfl
theorem AIL:AR Tryz.prog 39 (AF 0 2 TN TM TL OE):=AI Ku Tryz.func39 (by kernel_rfl) (by kernel_rfl) rfl (fun v=>(Zh v).trans (AMB v)) (AA AXg ⟨AQy,trivial⟩)
def Ov:Env:=Iq.ext 39 true true (AF 0 2 TN TM TL OE)
theorem L6:AZ Tryz.prog Ov:=Env.Ah Ja AIL (fun _=>AO rfl rfl) (fun _=>AJ rfl rfl)
abbrev Mn:Hints:={ loop:=fun n=>match n with|0=>Ac 0 28 Q1 Q0 Cy|_=>fun _ _ _=>none }
theorem YQ:∀ v,Cy v=roundOf Tryz.prog Ov Mn 1 0 28 (AB Tryz.f40 0) Q1 Q0 v:=by
 rintro⟨a0,a1,a2,a3,a4,⟨⟩⟩
 kernel_rfl
theorem AIJ:AD (AB Tryz.f40 0) 1=[]:=by kernel_rfl
theorem AIK:Aa Tryz.prog 0 (.loop (AB Tryz.f40 0)) (Mn.loop 0):=AU L6 (YQ) (AA AIJ trivial)
theorem AE0:∀ v,Iw v=AQ 0 Tryz.prog Ov Mn Tryz.f40 Mm Ml Mk v:=by
 rintro⟨a0,a1,⟨⟩⟩
 kernel_rfl
theorem AMA:AD (AT Tryz.f40) 0=[(0,AB Tryz.f40 0)]:=by kernel_rfl
theorem Zc:AR Tryz.prog 40 (AF 0 2 Mm Ml Mk KE):=AI L6 Tryz.func40 (by kernel_rfl) (by kernel_rfl) rfl (fun v=>(Q2 v).trans (AE0 v)) (AA AMA ⟨AIK,trivial⟩)
def JV:Env:=Ov.ext 40 true true (AF 0 2 Mm Ml Mk KE)
theorem Ii:AZ Tryz.prog JV:=Env.Ah L6 Zc (fun _=>AO rfl rfl) (fun _=>AJ rfl rfl)
abbrev ADH:Hints:={ loop:=fun n=>match n with|0=>Ac 0 26 AHW AHV GC|_=>fun _ _ _=>none,fp:=fun n=>match n with|6=>[[],[],[],[],[],[],[],[],[]]|_=>[] }
theorem AKy:∀ v,GC v=roundOf Tryz.prog JV ADH 1 0 26 (AB Tryz.f146 0) AHW AHV v:=by
 rintro⟨a0,a1,a2,a3,⟨⟩⟩
 kernel_rfl
theorem AaS:AD (AB Tryz.f146 0) 1=[]:=by kernel_rfl
theorem AaT:Aa Tryz.prog 0 (.loop (AB Tryz.f146 0)) (ADH.loop 0):=AU Ii (AKy) (AA AaS trivial)
theorem AUg:∀ v,SB v=AQ 0 Tryz.prog JV ADH Tryz.f146 ADG ADF ADE v:=by
 rintro⟨a0,a1,⟨⟩⟩
 kernel_rfl
theorem AeY:AD (AT Tryz.f146) 0=[(0,AB Tryz.f146 0)]:=by kernel_rfl
theorem APn:AR Tryz.prog 146 (AF 0 2 ADG ADF ADE QS):=AI Ii Tryz.func146 (by kernel_rfl) (by kernel_rfl) rfl (fun v=>(AHX v).trans (AUg v)) (AA AeY ⟨AaT,trivial⟩)
def S5:Env:=JV.ext 146 true true (AF 0 2 ADG ADF ADE QS)
theorem N7:AZ Tryz.prog S5:=Env.Ah Ii APn (fun _=>AO rfl rfl) (fun _=>AJ rfl rfl)
end
end Go.Pev
end
section
namespace Go.Pev
open Go.Proofs
noncomputable section
abbrev WA:Hints:={ loop:=fun n=>match n with|0=>Ac 0 32 ADJ ADI EW|_=>fun _ _ _=>none }
theorem AFl:∀ v,EW v=roundOf Tryz.prog S5 WA 1 0 32 (AB Tryz.f147 0) ADJ ADI v:=by
 rintro⟨a0,a1,a2,a3,⟨⟩⟩
 kernel_rfl
theorem AUi:AD (AB Tryz.f147 0) 1=[]:=by kernel_rfl
theorem AUj:Aa Tryz.prog 0 (.loop (AB Tryz.f147 0)) (WA.loop 0):=AU N7 (AFl) (AA AUi trivial)
theorem APo:∀ v,Od v=AQ 0 Tryz.prog S5 WA Tryz.f147 Vz Vy Vx v:=by
 rintro⟨a0,a1,⟨⟩⟩
 kernel_rfl
theorem AaU:AD (AT Tryz.f147) 0=[(0,AB Tryz.f147 0)]:=by kernel_rfl
theorem AKz:AR Tryz.prog 147 (AF 0 3 Vz Vy Vx SF):=AI N7 Tryz.func147 (by kernel_rfl) (by kernel_rfl) rfl (fun v=>(ADK v).trans (APo v)) (AA AaU ⟨AUj,trivial⟩)
def W0:Env:=S5.CH 147 2 146 (AF 0 3 Vz Vy Vx SF)
theorem S6:AZ Tryz.prog W0:=Env.Az N7 AKz (AJ rfl rfl)
abbrev AbC:Hints:={  }
theorem AQr:∀ v,Qw v=AQ 0 Tryz.prog W0 AbC Tryz.f129 ZV ZU ZT v:=by
 rintro⟨a0,a1,⟨⟩⟩
 kernel_rfl
theorem AbB:AD (AT Tryz.f129) 0=[]:=by kernel_rfl
theorem ALy:AR Tryz.prog 129 (AF 0 2 ZV ZU ZT ZW):=AI S6 Tryz.func129 (by kernel_rfl) (by kernel_rfl) rfl (fun v=>(AGA v).trans (AQr v)) (AA AbB trivial)
def AEU:Env:=W0.ext 129 true true (AF 0 2 ZV ZU ZT ZW)
theorem X2:AZ Tryz.prog AEU:=Env.Ah S6 ALy (fun _=>AO rfl rfl) (fun _=>AJ rfl rfl)
abbrev AXe:Hints:={  }
theorem AL0:∀ v,OB v=AQ 0 Tryz.prog AEU AXe Tryz.f99 TK TJ TH v:=by
 rintro⟨a0,⟨⟩⟩
 kernel_rfl
theorem AXd:AD (AT Tryz.f99) 0=[]:=by kernel_rfl
theorem AIE:AR Tryz.prog 99 (AF 0 1 TK TJ TH Qx):=AI X2 Tryz.func99 (by kernel_rfl) (by kernel_rfl) rfl (fun v=>(ZX v).trans (AL0 v)) (AA AXd trivial)
def Wn:Env:=AEU.ext 99 true true (AF 0 1 TK TJ TH Qx)
theorem Se:AZ Tryz.prog Wn:=Env.Ah X2 AIE (fun _=>AO rfl rfl) (fun _=>AJ rfl rfl)
theorem Ahv:Tryz.f100.body.isSome=true:=by kernel_rfl
theorem Ahu : (Tryz.f100.name == "runtime.NumGoroutine") = false := by kernel_rfl
theorem Aht:loops (AT Tryz.f100)=0:=by kernel_rfl
def Sj:Env:=Wn.ext 100 false false (DJ Tryz.prog Wn {} Tryz.f100)
theorem N0:AZ Tryz.prog Sj:=Env.Ah Se (Cv Se Tryz.func100 Ahv Ahu Aht) (by simp) (by simp)
abbrev Jv:Hints:={ loop:=fun n=>match n with|0=>Ac 0 19 Nb Na CP|_=>fun _ _ _=>none }
theorem R2:∀ v,CP v=roundOf Tryz.prog Sj Jv 1 0 19 (AB Tryz.f91 0) Nb Na v:=by
 rintro⟨a0,a1,a2,⟨⟩⟩
 kernel_rfl
theorem ACq:AD (AB Tryz.f91 0) 1=[]:=by kernel_rfl
theorem ACr:Aa Tryz.prog 0 (.loop (AB Tryz.f91 0)) (Jv.loop 0):=AU N0 (R2) (AA ACq trivial)
theorem Yc:∀ v,Gg v=AQ 0 Tryz.prog Sj Jv Tryz.f91 Ju Jt Js v:=by
 rintro⟨a0,⟨⟩⟩
 kernel_rfl
theorem AFc:AD (AT Tryz.f91) 0=[(0,AB Tryz.f91 0)]:=by kernel_rfl
theorem VU:AR Tryz.prog 91 (AF 0 2 Ju Jt Js JG):=AI N0 Tryz.func91 (by kernel_rfl) (by kernel_rfl) rfl (fun v=>(Nc v).trans (Yc v)) (AA AFc ⟨ACr,trivial⟩)
def KB:Env:=Sj.CH 91 1 100 (AF 0 2 Ju Jt Js JG)
theorem Ko:AZ Tryz.prog KB:=Env.Az N0 VU (AJ rfl rfl)
abbrev ADa:Hints:={  }
theorem WJ:∀ v,FU v=AQ 0 Tryz.prog KB ADa Tryz.f73 Ie Ic Ib v:=by
 rintro⟨a0,⟨⟩⟩
 kernel_rfl
theorem ADZ:AD (AT Tryz.f73) 0=[]:=by kernel_rfl
theorem SU:AR Tryz.prog 73 (AF 0 2 Ie Ic Ib FV):=AI Ko Tryz.func73 (by kernel_rfl) (by kernel_rfl) rfl (fun v=>(MW v).trans (WJ v)) (AA ADZ trivial)
def Ir:Env:=KB.CH 73 1 100 (AF 0 2 Ie Ic Ib FV)
theorem Jb:AZ Tryz.prog Ir:=Env.Az Ko SU (AJ rfl rfl)
abbrev Hy:Hints:={ loop:=fun n=>match n with|0=>Ac 0 100 AGf AGc Eo|1=>Ac 0 100 AGe AGb En|2=>Ac 0 100 AGd AGa Em|_=>fun _ _ _=>none,fp:=fun n=>match n with|17=>[[],[],[0],[0],[],[],[0],[0],[],[]]|_=>[] }
def M4:Env:={ Ir with keep:=false,rows:=true,arrs:=false }
theorem I1:AZ Tryz.prog M4:=Jb
theorem AJF:∀ v,Em v=roundOf Tryz.prog M4 Hy 3 0 100 (AB Tryz.f76 2) AGd AGa v:=by
 rintro⟨a0,a1,a2,a3,a4,a5,a6,a7,a8,a9,⟨⟩⟩
 kernel_rfl
theorem AYK:AD (AB Tryz.f76 2) 3=[]:=by kernel_rfl
theorem AYN:Aa Tryz.prog 0 (.loop (AB Tryz.f76 2)) (Hy.loop 2):=AU I1 (AJF) (AA AYK trivial)
theorem AJG:∀ v,En v=roundOf Tryz.prog M4 Hy 2 0 100 (AB Tryz.f76 1) AGe AGb v:=by
 rintro⟨a0,a1,a2,a3,a4,a5,⟨⟩⟩
 kernel_rfl
theorem AYL:AD (AB Tryz.f76 1) 2=[(2,AB Tryz.f76 2)]:=by kernel_rfl
theorem AYO:Aa Tryz.prog 0 (.loop (AB Tryz.f76 1)) (Hy.loop 1):=AU I1 (AJG) (AA AYL ⟨AYN,trivial⟩)
theorem AJH:∀ v,Eo v=roundOf Tryz.prog M4 Hy 1 0 100 (AB Tryz.f76 0) AGf AGc v:=by
 rintro⟨a0,a1,a2,a3,a4,a5,a6,a7,⟨⟩⟩
 kernel_rfl
theorem AYM:AD (AB Tryz.f76 0) 1=[]:=by kernel_rfl
theorem AYP:Aa Tryz.prog 0 (.loop (AB Tryz.f76 0)) (Hy.loop 0):=AU I1 (AJH) (AA AYM trivial)
theorem AR2:∀ v,RI v=AQ 0 Tryz.prog M4 Hy Tryz.f76 AAV AAU AAT v:=by
 rintro⟨a0,a1,⟨⟩⟩
 kernel_rfl
theorem AcG:AD (AT Tryz.f76) 0=[(0,AB Tryz.f76 0),(1,AB Tryz.f76 1)]:=by kernel_rfl
theorem AMu:AR Tryz.prog 76 (AF 0 2 AAV AAU AAT AAW):=AI I1 Tryz.func76 (by kernel_rfl) (by kernel_rfl) rfl (fun v=>(AGg v).trans (AR2 v)) (AA AcG ⟨AYP,AYO,trivial⟩)
def So:Env:=Ir.ext 76 true true (AF 0 2 AAV AAU AAT AAW)
theorem N1:AZ Tryz.prog So:=Env.Ah Jb AMu (fun _=>AO rfl rfl) (fun _=>AJ rfl rfl)
abbrev ABR:Hints:={ loop:=fun n=>match n with|0=>Ac 0 29 AGz AGy Fs|_=>fun _ _ _=>none }
theorem AJa:∀ v,Fs v=roundOf Tryz.prog So ABR 1 0 29 (AB Tryz.f42 0) AGz AGy v:=by
 rintro⟨a0,a1,a2,a3,a4,a5,a6,⟨⟩⟩
 kernel_rfl
theorem AYu:AD (AB Tryz.f42 0) 1=[]:=by kernel_rfl
theorem AYv:Aa Tryz.prog 0 (.loop (AB Tryz.f42 0)) (ABR.loop 0):=AU N1 (AJa) (AA AYu trivial)
theorem ASr:∀ v,Rd v=AQ 0 Tryz.prog So ABR Tryz.f42 ABQ ABP ABO v:=by
 rintro⟨a0,a1,⟨⟩⟩
 kernel_rfl
theorem Acl:AD (AT Tryz.f42) 0=[(0,AB Tryz.f42 0)]:=by kernel_rfl
theorem ANS:AR Tryz.prog 42 (AF 0 2 ABQ ABP ABO ABS):=AI N1 Tryz.func42 (by kernel_rfl) (by kernel_rfl) rfl (fun v=>(AG0 v).trans (ASr v)) (AA Acl ⟨AYv,trivial⟩)
def AEi:Env:=So.ext 42 true true (AF 0 2 ABQ ABP ABO ABS)
theorem YC:AZ Tryz.prog AEi:=Env.Ah N1 ANS (fun _=>AO rfl rfl) (fun _=>AJ rfl rfl)
abbrev Pq:Hints:={ loop:=fun n=>match n with|0=>Ac 0 108 AWI AWF I0|1=>Ac 0 108 AWH AWE Iz|2=>Ac 0 108 AWG AWD GY|_=>fun _ _ _=>none,fp:=fun n=>match n with|19=>[[],[0],[0],[0],[],[],[0],[0],[0],[],[4],[6],[6],[6],[6],[],[],[5,8],[5]]|6=>[[0],[0],[10],[10],[10],[],[],[],[],[],[],[],[20,22],[]]|_=>[] }
def AAM:Env:={ AEi with keep:=false,rows:=true,arrs:=true }
theorem OH:AZ Tryz.prog AAM:=YC
theorem ARv:∀ v,GY v=roundOf Tryz.prog AAM Pq 3 0 108 (AB Tryz.f27 2) AWG AWD v:=by
 rintro⟨a0,a1,a2,a3,a4,a5,a6,a7,a8,a9,a10,a11,a12,a13,a14,a15,a16,⟨⟩⟩
 kernel_rfl
theorem Aft:AD (AB Tryz.f27 2) 3=[]:=by kernel_rfl
theorem Afw:Aa Tryz.prog 0 (.loop (AB Tryz.f27 2)) (Pq.loop 2):=AU OH (ARv) (AA Aft trivial)
theorem ARw:∀ v,Iz v=roundOf Tryz.prog AAM Pq 2 0 108 (AB Tryz.f27 1) AWH AWE v:=by
 rintro⟨a0,a1,a2,a3,a4,a5,a6,a7,⟨⟩⟩
 kernel_rfl
theorem Afu:AD (AB Tryz.f27 1) 2=[(2,AB Tryz.f27 2)]:=by kernel_rfl
theorem Afx:Aa Tryz.prog 0 (.loop (AB Tryz.f27 1)) (Pq.loop 1):=AU OH (ARw) (AA Afu ⟨Afw,trivial⟩)
theorem ARx:∀ v,I0 v=roundOf Tryz.prog AAM Pq 1 0 108 (AB Tryz.f27 0) AWI AWF v:=by
 rintro⟨a0,a1,a2,a3,a4,a5,a6,a7,a8,a9,⟨⟩⟩
 kernel_rfl
theorem Afv:AD (AB Tryz.f27 0) 1=[]:=by kernel_rfl
theorem Afy:Aa Tryz.prog 0 (.loop (AB Tryz.f27 0)) (Pq.loop 0):=AU OH (ARx) (AA Afv trivial)
theorem AcE:∀ v,Tc v=ASt 0 Tryz.prog AAM Pq Tryz.f27 AR0 ARz ARy v:=by
 rintro⟨a0,a1,a2,⟨⟩⟩
 kernel_rfl
theorem Ahx:AD (AT Tryz.f27) 0=[(0,AB Tryz.f27 0),(1,AB Tryz.f27 1)]:=by kernel_rfl
theorem AYH:AR Tryz.prog 27 (AOi 0 3 AR0 ARz ARy seen):=Ae1 OH Tryz.func27 (by kernel_rfl) (by kernel_rfl) rfl (fun v=>(Y4 v).trans (AcE v)) (AA Ahx ⟨Afy,Afx,trivial⟩)
def AVm:Env:=AEi.ext 27 false false (AOi 0 3 AR0 ARz ARy seen)
theorem AHs:AZ Tryz.prog AVm:=Env.Ah YC AYH ((by simp)) (by simp)
abbrev AX9:Hints:={ fp:=fun n=>match n with|1=>[[],[0],[0],[0],[4],[4],[2],[],[0],[0],[0],[4],[4],[2],[],[],[]]|_=>[] }
theorem AMf:∀ v,Tb v=AQ 2 Tryz.prog AVm AX9 Tryz.f32 Ta TZ TY v:=by
 rintro⟨a0,a1,a2,a3,a4,⟨⟩⟩
 kernel_rfl
theorem AX8:AD (AT Tryz.f32) 0=[]:=by kernel_rfl
theorem AIw:AR Tryz.prog 32 (AF 2 2 Ta TZ TY OG):=AI AHs Tryz.func32 (by kernel_rfl) (by kernel_rfl) rfl (fun v=>(ARj v).trans (AMf v)) (AA AX8 trivial)
def Wo:Env:=AVm.ext 32 false true (AF 2 2 Ta TZ TY OG)
theorem Sk:AZ Tryz.prog Wo:=Env.Ah AHs AIw ((by simp)) (fun _=>AJ rfl rfl)
abbrev ARi:Hints:={  }
theorem AIv:∀ v,K4 v=AQ 2 Tryz.prog Wo ARi Tryz.f41 Po Pn Pm v:=by
 rintro⟨a0,a1,a2,a3,a4,⟨⟩⟩
 kernel_rfl
theorem ARh:AD (AT Tryz.f41) 0=[]:=by kernel_rfl
theorem AE5:AR Tryz.prog 41 (AF 2 2 Po Pn Pm Hx):=AI Sk Tryz.func41 (by kernel_rfl) (by kernel_rfl) rfl (fun v=>(XF v).trans (AIv v)) (AA ARh trivial)
def Qj:Env:=Wo.ext 41 false true (AF 2 2 Po Pn Pm Hx)
theorem PT:AZ Tryz.prog Qj:=Env.Ah Sk AE5 ((by simp)) (fun _=>AJ rfl rfl)
theorem AMe:Tryz.f65.body.isSome=true:=by kernel_rfl
theorem AMd : (Tryz.f65.name == "runtime.NumGoroutine") = false := by kernel_rfl
theorem AMc:loops (AT Tryz.f65)=0:=by kernel_rfl
def Gn:Env:=Qj.ext 65 false false (DJ Tryz.prog Qj {} Tryz.f65)
theorem GO:AZ Tryz.prog Gn:=Env.Ah PT (Cv PT Tryz.func65 AMe AMd AMc) (by simp) (by simp)
end
end Go.Pev
end
section
namespace Go.Pev
open Go.Proofs
noncomputable section
abbrev Jn:Hints:={ loop:=fun n=>match n with|0=>Ac 4 19 NT NS B1|_=>fun _ _ _=>none }
theorem Ry:∀ v,B1 v=roundOf Tryz.prog Gn Jn 1 4 19 (AB Tryz.f91 0) NT NS v:=by
 rintro⟨a0,a1,a2,a3,a4,a5,a6,⟨⟩⟩
 kernel_rfl
theorem ACm:AD (AB Tryz.f91 0) 1=[]:=by kernel_rfl
theorem ACn:Aa Tryz.prog 4 (.loop (AB Tryz.f91 0)) (Jn.loop 0):=AU GO (Ry) (AA ACm trivial)
theorem Ya:∀ v,Ge v=AQ 4 Tryz.prog Gn Jn Tryz.f91 Jm Jl Jk v:=by
 rintro⟨a0,a1,a2,a3,a4,⟨⟩⟩
 kernel_rfl
theorem AFa:AD (AT Tryz.f91) 0=[(0,AB Tryz.f91 0)]:=by kernel_rfl
theorem VR:AR Tryz.prog 91 (AF 4 2 Jm Jl Jk JB):=AI GO Tryz.func91 (by kernel_rfl) (by kernel_rfl) rfl (fun v=>(NU v).trans (Ya v)) (AA AFa ⟨ACn,trivial⟩)
def Gp:Env:=Gn.CH 91 1 65 (AF 4 2 Jm Jl Jk JB)
theorem GU:AZ Tryz.prog Gp:=Env.Az GO VR (AJ rfl rfl)
abbrev J3:Hints:={ loop:=fun n=>match n with|0=>Ac 4 42 Nl Nk Ct|_=>fun _ _ _=>none }
theorem SK:∀ v,Ct v=roundOf Tryz.prog Gp J3 1 4 42 (AB Tryz.f63 0) Nl Nk v:=by
 rintro⟨a0,a1,a2,a3,a4,a5,a6,⟨⟩⟩
 kernel_rfl
theorem ADQ:AD (AB Tryz.f63 0) 1=[]:=by kernel_rfl
theorem ADR:Aa Tryz.prog 4 (.loop (AB Tryz.f63 0)) (J3.loop 0):=AU GU (SK) (AA ADQ trivial)
theorem Yi:∀ v,Gj v=AQ 4 Tryz.prog Gp J3 Tryz.f63 J2 J1 J0 v:=by
 rintro⟨a0,a1,a2,a3,a4,⟨⟩⟩
 kernel_rfl
theorem AFn:AD (AT Tryz.f63) 0=[(0,AB Tryz.f63 0)]:=by kernel_rfl
theorem WD:AR Tryz.prog 63 (AF 4 2 J2 J1 J0 JO):=AI GU Tryz.func63 (by kernel_rfl) (by kernel_rfl) rfl (fun v=>(Nm v).trans (Yi v)) (AA AFn ⟨ADR,trivial⟩)
def KC:Env:=Gp.CH 63 1 65 (KH (AF 4 2 J2 J1 J0 JO))
theorem Kr:AZ Tryz.prog KC:=Env.Az GU (XB WD) (AVz rfl rfl)
abbrev ARg:Hints:={  }
theorem AIu:∀ v,K0 v=AQ 2 Tryz.prog KC ARg Tryz.f30 Pk Pj Ph v:=by
 rintro⟨a0,a1,a2,a3,⟨⟩⟩
 kernel_rfl
theorem ARf:AD (AT Tryz.f30) 0=[]:=by kernel_rfl
theorem AE4:AR Tryz.prog 30 (AF 2 1 Pk Pj Ph Hw):=AI Kr Tryz.func30 (by kernel_rfl) (by kernel_rfl) rfl (fun v=>(XE v).trans (AIu v)) (AA ARf trivial)
def Il:Env:=KC.ext 30 false true (AF 2 1 Pk Pj Ph Hw)
theorem Gm:AZ Tryz.prog Il:=Env.Ah Kr AE4 ((by simp)) (fun _=>AJ rfl rfl)
abbrev AAI:Hints:={ loop:=fun n=>match n with|0=>Ac 2 48 AV9 AV7 K5|1=>Ac 2 48 AV8 AV6 Iy|_=>fun _ _ _=>none,fp:=fun n=>match n with|9=>[[],[8],[4],[],[5],[],[5]]|_=>[] }
theorem ARl:∀ v,Iy v=roundOf Tryz.prog Il AAI 2 2 48 (AB Tryz.f29 1) AV8 AV6 v:=by
 rintro⟨a0,a1,a2,a3,a4,a5,a6,a7,a8,a9,a10,a11,⟨⟩⟩
 kernel_rfl
theorem Afl:AD (AB Tryz.f29 1) 2=[]:=by kernel_rfl
theorem Afn:Aa Tryz.prog 2 (.loop (AB Tryz.f29 1)) (AAI.loop 1):=AU Gm (ARl) (AA Afl trivial)
theorem ARm:∀ v,K5 v=roundOf Tryz.prog Il AAI 1 2 48 (AB Tryz.f29 0) AV9 AV7 v:=by
 rintro⟨a0,a1,a2,a3,a4,a5,a6,a7,a8,⟨⟩⟩
 kernel_rfl
theorem Afm:AD (AB Tryz.f29 0) 1=[(1,AB Tryz.f29 1)]:=by kernel_rfl
theorem Afo:Aa Tryz.prog 2 (.loop (AB Tryz.f29 0)) (AAI.loop 0):=AU Gm (ARm) (AA Afm ⟨Afn,trivial⟩)
theorem Ab1:∀ v,AI0 v=AQ 2 Tryz.prog Il AAI Tryz.f29 ARp ARo ARn v:=by
 rintro⟨a0,a1,a2,a3,a4,⟨⟩⟩
 kernel_rfl
theorem Ahw:AD (AT Tryz.f29) 0=[(0,AB Tryz.f29 0)]:=by kernel_rfl
theorem AYB:AR Tryz.prog 29 (AF 2 2 ARp ARo ARn ARq):=AI Gm Tryz.func29 (by kernel_rfl) (by kernel_rfl) rfl (fun v=>(AWA v).trans (Ab1 v)) (AA Ahw ⟨Afo,trivial⟩)
def AVl:Env:=Il.ext 29 false true (AF 2 2 ARp ARo ARn ARq)
theorem AHr:AZ Tryz.prog AVl:=Env.Ah Gm AYB ((by simp)) (fun _=>AJ rfl rfl)
theorem Afe:Tryz.f31.body.isSome=true:=by kernel_rfl
theorem Afd : (Tryz.f31.name == "runtime.NumGoroutine") = false := by kernel_rfl
theorem Afc:loops (AT Tryz.f31)=0:=by kernel_rfl
def Ow:Env:=AVl.ext 31 false false (DJ Tryz.prog AVl {} Tryz.f31)
theorem L8:AZ Tryz.prog Ow:=Env.Ah AHr (Cv AHr Tryz.func31 Afe Afd Afc) (by simp) (by simp)
abbrev Lc:Hints:={ loop:=fun n=>match n with|0=>Ac 4 19 PI PH Jw|_=>fun _ _ _=>none }
theorem VW:∀ v,Jw v=roundOf Tryz.prog Ow Lc 1 4 19 (AB Tryz.f38 0) PI PH v:=by
 rintro⟨a0,a1,a2,a3,a4,a5,a6,⟨⟩⟩
 kernel_rfl
theorem AFd:AD (AB Tryz.f38 0) 1=[]:=by kernel_rfl
theorem AFe:Aa Tryz.prog 4 (.loop (AB Tryz.f38 0)) (Lc.loop 0):=AU L8 (VW) (AA AFd trivial)
theorem ACt:∀ v,Ld v=AQ 4 Tryz.prog Ow Lc Tryz.f38 Lb La LZ v:=by
 rintro⟨a0,a1,a2,a3,a4,⟨⟩⟩
 kernel_rfl
theorem AKb:AD (AT Tryz.f38) 0=[(0,AB Tryz.f38 0)]:=by kernel_rfl
theorem Yf:AR Tryz.prog 38 (AF 4 2 Lb La LZ Le):=AI L8 Tryz.func38 (by kernel_rfl) (by kernel_rfl) rfl (fun v=>(AFf v).trans (ACt v)) (AA AKb ⟨AFe,trivial⟩)
def HV:Env:=Ow.CH 38 1 31 (AF 4 2 Lb La LZ Le)
theorem HE:AZ Tryz.prog HV:=Env.Az L8 Yf (AJ rfl rfl)
abbrev Lv:Hints:={ loop:=fun n=>match n with|0=>Ac 4 42 PR PQ J4|_=>fun _ _ _=>none }
theorem WE:∀ v,J4 v=roundOf Tryz.prog HV Lv 1 4 42 (AB Tryz.f28 0) PR PQ v:=by
 rintro⟨a0,a1,a2,a3,a4,a5,a6,⟨⟩⟩
 kernel_rfl
theorem AFo:AD (AB Tryz.f28 0) 1=[]:=by kernel_rfl
theorem AFp:Aa Tryz.prog 4 (.loop (AB Tryz.f28 0)) (Lv.loop 0):=AU HE (WE) (AA AFo trivial)
theorem ADS:∀ v,Lw v=AQ 4 Tryz.prog HV Lv Tryz.f28 Lu Lt Ls v:=by
 rintro⟨a0,a1,a2,a3,a4,⟨⟩⟩
 kernel_rfl
theorem AK3:AD (AT Tryz.f28) 0=[(0,AB Tryz.f28 0)]:=by kernel_rfl
theorem Yj:AR Tryz.prog 28 (AF 4 2 Lu Lt Ls Lx):=AI HE Tryz.func28 (by kernel_rfl) (by kernel_rfl) rfl (fun v=>(AFq v).trans (ADS v)) (AA AK3 ⟨AFp,trivial⟩)
def MM:Env:=HV.CH 28 1 31 (KH (AF 4 2 Lu Lt Ls Lx))
theorem Ma:AZ Tryz.prog MM:=Env.Az HE (XB Yj) (AVz rfl rfl)
abbrev Ahs:Hints:={ fp:=fun n=>match n with|4=>[[10],[10],[1000005,3,5],[1000005,3,13,5],[],[1000005,21,11,3,5],[],[]]|_=>[] }
theorem Abw:∀ v,ARc v=AQ 0 Tryz.prog MM Ahs Tryz.f11 ARb ARa ARZ v:=by
 rintro⟨a0,a1,a2,⟨⟩⟩
 kernel_rfl
theorem Ahr:AD (AT Tryz.f11) 0=[]:=by kernel_rfl
theorem AX3:AR Tryz.prog 11 (AF 0 3 ARb ARa ARZ Abx):=AI Ma Tryz.func11 (by kernel_rfl) (by kernel_rfl) rfl (fun v=>(Afb v).trans (Abw v)) (AA Ahr trivial)
def AVk:Env:=MM.ext 11 true true (AF 0 3 ARb ARa ARZ Abx)
theorem AHq:AZ Tryz.prog AVk:=Env.Ah Ma AX3 (fun _=>AO rfl rfl) (fun _=>AJ rfl rfl)
abbrev Abv:Hints:={  }
theorem ARY:∀ v,Q8 v=AQ 0 Tryz.prog AVk Abv Tryz.f13 AAH AAG AAF v:=by
 rintro⟨a0,a1,a2,a3,⟨⟩⟩
 kernel_rfl
theorem Abu:AD (AT Tryz.f13) 0=[]:=by kernel_rfl
theorem AMa:AR Tryz.prog 13 (AF 0 4 AAH AAG AAF TX):=AI AHq Tryz.func13 (by kernel_rfl) (by kernel_rfl) rfl (fun v=>(AGU v).trans (ARY v)) (AA Abu trivial)
def Sh:Env:=AVk.ext 13 true true (AF 0 4 AAH AAG AAF TX)
theorem Nz:AZ Tryz.prog Sh:=Env.Ah AHq AMa (fun _=>AO rfl rfl) (fun _=>AJ rfl rfl)
abbrev Li:Hints:={ loop:=fun n=>match n with|0=>Ac 2 19 PK PJ Jx|_=>fun _ _ _=>none }
theorem VX:∀ v,Jx v=roundOf Tryz.prog Sh Li 1 2 19 (AB Tryz.f38 0) PK PJ v:=by
 rintro⟨a0,a1,a2,a3,a4,a5,a6,⟨⟩⟩
 kernel_rfl
theorem AFg:AD (AB Tryz.f38 0) 1=[]:=by kernel_rfl
theorem AFh:Aa Tryz.prog 2 (.loop (AB Tryz.f38 0)) (Li.loop 0):=AU Nz (VX) (AA AFg trivial)
theorem ACu:∀ v,Lj v=AQ 2 Tryz.prog Sh Li Tryz.f38 Lh Lg Lf v:=by
 rintro⟨a0,a1,a2,a3,a4,⟨⟩⟩
 kernel_rfl
theorem AKc:AD (AT Tryz.f38) 0=[(0,AB Tryz.f38 0)]:=by kernel_rfl
theorem Yg:AR Tryz.prog 38 (AF 2 2 Lh Lg Lf Ll):=AI Nz Tryz.func38 (by kernel_rfl) (by kernel_rfl) rfl (fun v=>(AFi v).trans (ACu v)) (AA AKc ⟨AFh,trivial⟩)
def HW:Env:=Sh.CH 38 1 32 (AF 2 2 Lh Lg Lf Ll)
theorem HF:AZ Tryz.prog HW:=Env.Az Nz Yg (AJ rfl rfl)
abbrev AIm:Hints:={ loop:=fun n=>match n with|0=>Ac 0 66 AMZ AMY AAD|_=>fun _ _ _=>none,fp:=fun n=>match n with|11=>[[],[],[6],[6],[0],[1],[0],[1]]|_=>[] }
theorem AMX:∀ v,AAD v=roundOf Tryz.prog HW AIm 1 0 66 (AB Tryz.f15 0) AMZ AMY v:=by
 rintro⟨a0,a1,a2,a3,a4,a5,a6,a7,a8,a9,⟨⟩⟩
 kernel_rfl
theorem Abr:AD (AB Tryz.f15 0) 1=[]:=by kernel_rfl
theorem Abs:Aa Tryz.prog 0 (.loop (AB Tryz.f15 0)) (AIm.loop 0):=AU HF (AMX) (AA Abr trivial)
theorem AX2:∀ v,AIn v=AQ 0 Tryz.prog HW AIm Tryz.f15 AIl AIk AIj v:=by
 rintro⟨a0,a1,a2,⟨⟩⟩
 kernel_rfl
theorem Afa:AD (AT Tryz.f15) 0=[(0,AB Tryz.f15 0)]:=by kernel_rfl
theorem ARW:AR Tryz.prog 15 (AF 0 3 AIl AIk AIj AAE):=AI HF Tryz.func15 (by kernel_rfl) (by kernel_rfl) rfl (fun v=>(Abt v).trans (AX2 v)) (AA Afa ⟨Abs,trivial⟩)
def ZK:Env:=HW.ext 15 true true (AF 0 3 AIl AIk AIj AAE)
theorem Qi:AZ Tryz.prog ZK:=Env.Ah HF ARW (fun _=>AO rfl rfl) (fun _=>AJ rfl rfl)
abbrev Z9:Hints:={ loop:=fun n=>match n with|0=>Ac 0 65 AGS AGR Fh|_=>fun _ _ _=>none,fp:=fun n=>match n with|4=>[[],[4],[4],[4],[],[4],[4],[4],[],[],[12],[],[],[],[3]]|_=>[] }
theorem AIh:∀ v,Fh v=roundOf Tryz.prog ZK Z9 1 0 65 (AB Tryz.f18 0) AGS AGR v:=by
 rintro⟨a0,a1,a2,a3,a4,a5,a6,a7,a8,a9,a10,⟨⟩⟩
 kernel_rfl
theorem AXy:AD (AB Tryz.f18 0) 1=[]:=by kernel_rfl
theorem AXz:Aa Tryz.prog 0 (.loop (AB Tryz.f18 0)) (Z9.loop 0):=AU Qi (AIh) (AA AXy trivial)
theorem ARO:∀ v,Mr v=AQ 0 Tryz.prog ZK Z9 Tryz.f18 Z8 Z7 Z6 v:=by
 rintro⟨a0,a1,a2,a3,⟨⟩⟩
 kernel_rfl
theorem Abq:AD (AT Tryz.f18) 0=[(0,AB Tryz.f18 0)]:=by kernel_rfl
theorem AMV:AR Tryz.prog 18 (AF 0 4 Z8 Z7 Z6 Pe):=AI Qi Tryz.func18 (by kernel_rfl) (by kernel_rfl) rfl (fun v=>(TW v).trans (ARO v)) (AA Abq ⟨AXz,trivial⟩)
def Ik:Env:=ZK.ext 18 true true (AF 0 4 Z8 Z7 Z6 Pe)
theorem E4:AZ Tryz.prog Ik:=Env.Ah Qi AMV (fun _=>AO rfl rfl) (fun _=>AJ rfl rfl)
end
end Go.Pev
end
section
namespace Go.Pev
open Go.Proofs
noncomputable section
abbrev D2:Hints:={ loop:=fun n=>match n with|0=>Ac 0 94 AD6 AD2 Eg|1=>Ac 0 94 AD5 AD1 Ef|2=>Ac 0 94 AD4 AD0 Dj|3=>Ac 0 94 AD3 ADz Ee|_=>fun _ _ _=>none }
theorem AF5:∀ v,Ee v=roundOf Tryz.prog Ik D2 4 0 94 (AB Tryz.f43 3) AD3 ADz v:=by
 rintro⟨a0,a1,a2,a3,a4,a5,a6,a7,a8,⟨⟩⟩
 kernel_rfl
theorem AVM:AD (AB Tryz.f43 3) 4=[]:=by kernel_rfl
theorem AVQ:Aa Tryz.prog 0 (.loop (AB Tryz.f43 3)) (D2.loop 3):=AU E4 (AF5) (AA AVM trivial)
theorem AF6:∀ v,Dj v=roundOf Tryz.prog Ik D2 3 0 94 (AB Tryz.f43 2) AD4 AD0 v:=by
 rintro⟨a0,a1,a2,a3,a4,a5,a6,a7,⟨⟩⟩
 kernel_rfl
theorem AVN:AD (AB Tryz.f43 2) 3=[(3,AB Tryz.f43 3)]:=by kernel_rfl
theorem AVR:Aa Tryz.prog 0 (.loop (AB Tryz.f43 2)) (D2.loop 2):=AU E4 (AF6) (AA AVN ⟨AVQ,trivial⟩)
theorem AF7:∀ v,Ef v=roundOf Tryz.prog Ik D2 2 0 94 (AB Tryz.f43 1) AD5 AD1 v:=by
 rintro⟨a0,a1,a2,a3,a4,a5,⟨⟩⟩
 kernel_rfl
theorem AVO:AD (AB Tryz.f43 1) 2=[(2,AB Tryz.f43 2)]:=by kernel_rfl
theorem AVS:Aa Tryz.prog 0 (.loop (AB Tryz.f43 1)) (D2.loop 1):=AU E4 (AF7) (AA AVO ⟨AVR,trivial⟩)
theorem AF8:∀ v,Eg v=roundOf Tryz.prog Ik D2 1 0 94 (AB Tryz.f43 0) AD6 AD2 v:=by
 rintro⟨a0,a1,a2,a3,⟨⟩⟩
 kernel_rfl
theorem AVP:AD (AB Tryz.f43 0) 1=[]:=by kernel_rfl
theorem AVT:Aa Tryz.prog 0 (.loop (AB Tryz.f43 0)) (D2.loop 0):=AU E4 (AF8) (AA AVP trivial)
theorem AQL:∀ v,Ol v=AQ 0 Tryz.prog Ik D2 Tryz.f43 Wc Wb Wa v:=by
 rintro⟨a0,a1,⟨⟩⟩
 kernel_rfl
theorem Aan:AD (AT Tryz.f43) 0=[(0,AB Tryz.f43 0),(1,AB Tryz.f43 1)]:=by kernel_rfl
theorem ALN:AR Tryz.prog 43 (AF 0 2 Wc Wb Wa SZ):=AI E4 Tryz.func43 (by kernel_rfl) (by kernel_rfl) rfl (fun v=>(AD7 v).trans (AQL v)) (AA Aan ⟨AVT,AVS,trivial⟩)
def W4:Env:=Ik.ext 43 true true (AF 0 2 Wc Wb Wa SZ)
theorem S9:AZ Tryz.prog W4:=Env.Ah E4 ALN (fun _=>AO rfl rfl) (fun _=>AJ rfl rfl)
abbrev AcJ:Hints:={  }
theorem AR3:∀ v,RJ v=AQ 0 Tryz.prog W4 AcJ Tryz.f20 AAa AAZ AAY v:=by
 rintro⟨a0,a1,⟨⟩⟩
 kernel_rfl
theorem AcI:AD (AT Tryz.f20) 0=[]:=by kernel_rfl
theorem AMw:AR Tryz.prog 20 (AF 0 2 AAa AAZ AAY AAb):=AI S9 Tryz.func20 (by kernel_rfl) (by kernel_rfl) rfl (fun v=>(AGh v).trans (AR3 v)) (AA AcI trivial)
def AEc:Env:=W4.ext 20 true true (AF 0 2 AAa AAZ AAY AAb)
theorem X7:AZ Tryz.prog AEc:=Env.Ah S9 AMw (fun _=>AO rfl rfl) (fun _=>AJ rfl rfl)
abbrev AYb:Hints:={  }
theorem AND:∀ v,OL v=AQ 0 Tryz.prog AEc AYb Tryz.f102 Tn Tm Tl v:=by
 rintro⟨a0,⟨⟩⟩
 kernel_rfl
theorem AYa:AD (AT Tryz.f102) 0=[]:=by kernel_rfl
theorem AJK:AR Tryz.prog 102 (AF 0 1 Tn Tm Tl RU):=AI X7 Tryz.func102 (by kernel_rfl) (by kernel_rfl) rfl (fun v=>(AAw v).trans (AND v)) (AA AYa trivial)
def Wp:Env:=AEc.ext 102 true true (AF 0 1 Tn Tm Tl RU)
theorem Sp:AZ Tryz.prog Wp:=Env.Ah X7 AJK (fun _=>AO rfl rfl) (fun _=>AJ rfl rfl)
abbrev Aga:Hints:={  }
theorem AZX:∀ v,ZA v=AQ 0 Tryz.prog Wp Aga Tryz.f103 AKG AKF AKE v:=by
 rintro⟨a0,⟨⟩⟩
 kernel_rfl
theorem AgZ:AD (AT Tryz.f103) 0=[]:=by kernel_rfl
theorem ATo:AR Tryz.prog 103 (AF 0 1 AKG AKF AKE AOp):=AI Sp Tryz.func103 (by kernel_rfl) (by kernel_rfl) rfl (fun v=>(AOo v).trans (AZX v)) (AA AgZ trivial)
def MH:Env:=Wp.ext 103 true true (AF 0 1 AKG AKF AKE AOp)
theorem GR:AZ Tryz.prog MH:=Env.Ah Sp ATo (fun _=>AO rfl rfl) (fun _=>AJ rfl rfl)
abbrev D1:Hints:={ loop:=fun n=>match n with|0=>Ac 0 89 ADx ADt Ed|1=>Ac 0 89 ADw ADs Ec|2=>Ac 0 89 ADv ADr Di|3=>Ac 0 89 ADu ADq Eb|_=>fun _ _ _=>none }
theorem AF1:∀ v,Eb v=roundOf Tryz.prog MH D1 4 0 89 (AB Tryz.f80 3) ADu ADq v:=by
 rintro⟨a0,a1,a2,a3,a4,a5,a6,a7,a8,a9,a10,⟨⟩⟩
 kernel_rfl
theorem AVE:AD (AB Tryz.f80 3) 4=[]:=by kernel_rfl
theorem AVI:Aa Tryz.prog 0 (.loop (AB Tryz.f80 3)) (D1.loop 3):=AU GR (AF1) (AA AVE trivial)
theorem AF2:∀ v,Di v=roundOf Tryz.prog MH D1 3 0 89 (AB Tryz.f80 2) ADv ADr v:=by
 rintro⟨a0,a1,a2,a3,a4,a5,a6,a7,a8,⟨⟩⟩
 kernel_rfl
theorem AVF:AD (AB Tryz.f80 2) 3=[(3,AB Tryz.f80 3)]:=by kernel_rfl
theorem AVJ:Aa Tryz.prog 0 (.loop (AB Tryz.f80 2)) (D1.loop 2):=AU GR (AF2) (AA AVF ⟨AVI,trivial⟩)
theorem AF3:∀ v,Ec v=roundOf Tryz.prog MH D1 2 0 89 (AB Tryz.f80 1) ADw ADs v:=by
 rintro⟨a0,a1,a2,a3,a4,a5,a6,⟨⟩⟩
 kernel_rfl
theorem AVG:AD (AB Tryz.f80 1) 2=[(2,AB Tryz.f80 2)]:=by kernel_rfl
theorem AVK:Aa Tryz.prog 0 (.loop (AB Tryz.f80 1)) (D1.loop 1):=AU GR (AF3) (AA AVG ⟨AVJ,trivial⟩)
theorem AF4:∀ v,Ed v=roundOf Tryz.prog MH D1 1 0 89 (AB Tryz.f80 0) ADx ADt v:=by
 rintro⟨a0,a1,a2,a3,a4,a5,⟨⟩⟩
 kernel_rfl
theorem AVH:AD (AB Tryz.f80 0) 1=[]:=by kernel_rfl
theorem AVL:Aa Tryz.prog 0 (.loop (AB Tryz.f80 0)) (D1.loop 0):=AU GR (AF4) (AA AVH trivial)
theorem AQJ:∀ v,Oj v=AQ 0 Tryz.prog MH D1 Tryz.f80 WZ WY WX v:=by
 rintro⟨a0,a1,⟨⟩⟩
 kernel_rfl
theorem Aam:AD (AT Tryz.f80) 0=[(0,AB Tryz.f80 0),(1,AB Tryz.f80 1)]:=by kernel_rfl
theorem ALM:AR Tryz.prog 80 (AF 0 2 WZ WY WX SY):=AI GR Tryz.func80 (by kernel_rfl) (by kernel_rfl) rfl (fun v=>(ADy v).trans (AQJ v)) (AA Aam ⟨AVL,AVK,trivial⟩)
def O1:Env:=MH.ext 80 true true (AF 0 2 WZ WY WX SY)
theorem MN:AZ Tryz.prog O1:=Env.Ah GR ALM (fun _=>AO rfl rfl) (fun _=>AJ rfl rfl)
abbrev Mi:Hints:={ loop:=fun n=>match n with|0=>Ac 0 45 Qt Qs Cx|_=>fun _ _ _=>none }
theorem YM:∀ v,Cx v=roundOf Tryz.prog O1 Mi 1 0 45 (AB Tryz.f81 0) Qt Qs v:=by
 rintro⟨a0,a1,a2,a3,a4,a5,⟨⟩⟩
 kernel_rfl
theorem AH8:AD (AB Tryz.f81 0) 1=[]:=by kernel_rfl
theorem AH9:Aa Tryz.prog 0 (.loop (AB Tryz.f81 0)) (Mi.loop 0):=AU MN (YM) (AA AH8 trivial)
theorem AEy:∀ v,Iv v=AQ 0 Tryz.prog O1 Mi Tryz.f81 Mh Mg Mf v:=by
 rintro⟨a0,a1,⟨⟩⟩
 kernel_rfl
theorem ALv:AD (AT Tryz.f81) 0=[(0,AB Tryz.f81 0)]:=by kernel_rfl
theorem ZR:AR Tryz.prog 81 (AF 0 2 Mh Mg Mf KD):=AI MN Tryz.func81 (by kernel_rfl) (by kernel_rfl) rfl (fun v=>(Qu v).trans (AEy v)) (AA ALv ⟨AH9,trivial⟩)
def JU:Env:=O1.ext 81 true true (AF 0 2 Mh Mg Mf KD)
theorem Ih:AZ Tryz.prog JU:=Env.Ah MN ZR (fun _=>AO rfl rfl) (fun _=>AJ rfl rfl)
abbrev Tk:Hints:={ loop:=fun n=>match n with|0=>Ac 0 31 AAu AAt ER|_=>fun _ _ _=>none }
theorem AFB:∀ v,ER v=roundOf Tryz.prog JU Tk 1 0 31 (AB Tryz.f47 0) AAu AAt v:=by
 rintro⟨a0,a1,⟨⟩⟩
 kernel_rfl
theorem ASC:AD (AB Tryz.f47 0) 1=[]:=by kernel_rfl
theorem ASD:Aa Tryz.prog 0 (.loop (AB Tryz.f47 0)) (Tk.loop 0):=AU Ih (AFB) (AA ASC trivial)
theorem ANC:∀ v,OK v=AQ 0 Tryz.prog JU Tk Tryz.f47 Tj Ti Th v:=by
 rintro⟨a0,a1,⟨⟩⟩
 kernel_rfl
theorem AYZ:AD (AT Tryz.f47) 0=[(0,AB Tryz.f47 0)]:=by kernel_rfl
theorem AJJ:AR Tryz.prog 47 (AF 0 2 Tj Ti Th RT):=AI Ih Tryz.func47 (by kernel_rfl) (by kernel_rfl) rfl (fun v=>(AAv v).trans (ANC v)) (AA AYZ ⟨ASD,trivial⟩)
def Ox:Env:=JU.ext 47 true true (AF 0 2 Tj Ti Th RT)
theorem ME:AZ Tryz.prog Ox:=Env.Ah Ih AJJ (fun _=>AO rfl rfl) (fun _=>AJ rfl rfl)
abbrev Vw:Hints:={ loop:=fun n=>match n with|0=>Ac 0 56 ADA AC9 De|_=>fun _ _ _=>none }
theorem AFk:∀ v,De v=roundOf Tryz.prog Ox Vw 1 0 56 (AB Tryz.f22 0) ADA AC9 v:=by
 rintro⟨a0,a1,a2,a3,a4,a5,⟨⟩⟩
 kernel_rfl
theorem AUe:AD (AB Tryz.f22 0) 1=[]:=by kernel_rfl
theorem AUf:Aa Tryz.prog 0 (.loop (AB Tryz.f22 0)) (Vw.loop 0):=AU ME (AFk) (AA AUe trivial)
theorem APh:∀ v,Oa v=AQ 0 Tryz.prog Ox Vw Tryz.f22 Vv Vu Vt v:=by
 rintro⟨a0,a1,a2,a3,⟨⟩⟩
 kernel_rfl
theorem AaO:AD (AT Tryz.f22) 0=[(0,AB Tryz.f22 0)]:=by kernel_rfl
theorem AKt:AR Tryz.prog 22 (AF 0 4 Vv Vu Vt Oc):=AI ME Tryz.func22 (by kernel_rfl) (by kernel_rfl) rfl (fun v=>(ADB v).trans (APh v)) (AA AaO ⟨AUf,trivial⟩)
def Wz:Env:=Ox.ext 22 true true (AF 0 4 Vv Vu Vt Oc)
theorem S4:AZ Tryz.prog Wz:=Env.Ah ME AKt (fun _=>AO rfl rfl) (fun _=>AJ rfl rfl)
abbrev Aa3:Hints:={  }
theorem AQZ:∀ v,Wj v=AQ 0 Tryz.prog Wz Aa3 Tryz.f9 Wi Wh Wg v:=by
 rintro⟨⟨⟩⟩
 kernel_rfl
theorem Aa2:AD (AT Tryz.f9) 0=[]:=by kernel_rfl
theorem ALZ:AR Tryz.prog 9 (AF 0 0 Wi Wh Wg JS):=AI S4 Tryz.func9 (by kernel_rfl) (by kernel_rfl) rfl (fun v=>(AVd v).trans (AQZ v)) (AA Aa2 trivial)
def W6:Env:=Wz.ext 9 true true (AF 0 0 Wi Wh Wg JS)
theorem TB:AZ Tryz.prog W6:=Env.Ah S4 ALZ (fun _=>AO rfl rfl) (fun _=>AJ rfl rfl)
abbrev AaF:Hints:={  }
theorem APW:∀ v,OY v=AQ 0 Tryz.prog W6 AaF Tryz.f10 Vp Vo VZ v:=by
 rintro⟨a0,⟨⟩⟩
 kernel_rfl
theorem AaE:AD (AT Tryz.f10) 0=[]:=by kernel_rfl
theorem AKo:AR Tryz.prog 10 (AF 0 1 Vp Vo VZ OZ):=AI TB Tryz.func10 (by kernel_rfl) (by kernel_rfl) rfl (fun v=>(ACw v).trans (APW v)) (AA AaE trivial)
def Kp:Env:=W6.ext 10 true true (AF 0 1 Vp Vo VZ OZ)
theorem HX:AZ Tryz.prog Kp:=Env.Ah TB AKo (fun _=>AO rfl rfl) (fun _=>AJ rfl rfl)
abbrev Cf:Hints:={ loop:=fun n=>match n with|0=>Ac 0 143 My Mv CN|1=>Ac 0 143 Mx Mu By|2=>Ac 0 143 Mw Mt Bx|_=>fun _ _ _=>none,fp:=fun n=>match n with|24=>[[],[],[4],[4],[],[],[6],[6],[],[],[12],[12],[],[],[],[4],[4],[],[],[6],[6],[],[],[12],[12],[],[],[]]|_=>[] }
theorem RC:∀ v,Bx v=roundOf Tryz.prog Kp Cf 3 0 143 (AB Tryz.f6 2) Mw Mt v:=by
 rintro⟨a0,a1,a2,a3,a4,a5,a6,a7,a8,a9,a10,a11,a12,a13,a14,a15,a16,a17,a18,a19,a20,⟨⟩⟩
 kernel_rfl
theorem AAN:AD (AB Tryz.f6 2) 3=[]:=by kernel_rfl
theorem AAQ:Aa Tryz.prog 0 (.loop (AB Tryz.f6 2)) (Cf.loop 2):=AU HX (RC) (AA AAN trivial)
theorem RD:∀ v,By v=roundOf Tryz.prog Kp Cf 2 0 143 (AB Tryz.f6 1) Mx Mu v:=by
 rintro⟨a0,a1,a2,a3,a4,a5,a6,a7,a8,a9,a10,a11,a12,a13,a14,⟨⟩⟩
 kernel_rfl
theorem AAO:AD (AB Tryz.f6 1) 2=[(2,AB Tryz.f6 2)]:=by kernel_rfl
theorem AAR:Aa Tryz.prog 0 (.loop (AB Tryz.f6 1)) (Cf.loop 1):=AU HX (RD) (AA AAO ⟨AAQ,trivial⟩)
theorem RE:∀ v,CN v=roundOf Tryz.prog Kp Cf 1 0 143 (AB Tryz.f6 0) My Mv v:=by
 rintro⟨a0,a1,a2,a3,a4,a5,a6,a7,a8,⟨⟩⟩
 kernel_rfl
theorem AAP:AD (AB Tryz.f6 0) 1=[(1,AB Tryz.f6 1)]:=by kernel_rfl
theorem AAS:Aa Tryz.prog 0 (.loop (AB Tryz.f6 0)) (Cf.loop 0):=AU HX (RE) (AA AAP ⟨AAR,trivial⟩)
theorem YX:∀ v,GZ v=AQ 0 Tryz.prog Kp Cf Tryz.f6 Jf Je Jd v:=by
 rintro⟨a0,a1,a2,⟨⟩⟩
 kernel_rfl
theorem AE6:AD (AT Tryz.f6) 0=[(0,AB Tryz.f6 0)]:=by kernel_rfl
theorem Te:AR Tryz.prog 6 (AF 0 3 Jf Je Jd El):=AI HX Tryz.func6 (by kernel_rfl) (by kernel_rfl) rfl (fun v=>(Mz v).trans (YX v)) (AA AE6 ⟨AAS,trivial⟩)
end
end Go.Pev
end
section

end
