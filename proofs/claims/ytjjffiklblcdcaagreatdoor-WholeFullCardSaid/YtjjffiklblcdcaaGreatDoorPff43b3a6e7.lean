/- A part of the proofs of this seat: CU26g CU26h CBW22v CU26i W33b CU26al CU26j CU26k CU26l CU26m EW22g EW22h EW22i EW22j EW22k EW22l EW22m EW22n EW22o EW22p EW22q EW22r EW22t EW22u EW22v CSTf EW22w MS27u MS27a MS27b MS27c MS27r MS27s MS27v MS27x U28g M28a M28b U28h W33j W33c W35t W35c W33e W35f W35x W35y W33f W33g W35zf GTP26 GTP. -/
import Derived.Test.YtjjffiklblcdcaaGreatDoorPe10bb9902c
import Derived.KernelRfl
import Derived.Test.YtjjffiklblcdcaaGreatDoorProg
set_option linter.unusedVariables false
set_option linter.unusedSimpArgs false
set_option linter.unusedSectionVars false
set_option maxRecDepth 100000
section
namespace Go.Pev.Pl
def nps(b:Nat):Nat:=(32+b-1)/b
theorem AOY{b p:Nat}(a:1<=b):p<nps b↔p*b<32:=by unfold nps;rw[Nat.lt_div_iff_mul_lt (by omega)];omega
theorem oA{b:Nat}:nps b<=47:=by unfold nps;rcases Abz b with h|h;grind;have c:=Nat.div_mul_le_self (32+b-1) b;generalize (32+b-1)/b=q at c;rcases Acs 32 q with a|a;have:33*b<=q*b:=AbY _ a;omega;omega
theorem AEV{b:Nat}(a:1<=b):1<=nps b:=by have:=(AOY (p:=0) a).2 (by omega);omega
theorem sZ{b:Int}(h:¬ (1<=b/\b<=16)):Qg (b,())=some (0,()):=by rw[Sc,Qf];by_cases a:b<1;rw[BF,Aar a];rw[BF,Aaq a,BF,Aar (by omega)]
theorem PI{b:Nat}(h:1<=b)(c:b<=16):Qg ((b:Int),())=some ((nps b:Int),()):=by
 have:=oA (b:=b);rw[Sc,Qf];rw[BF,Aaq (by omega),BF,Aaq (by omega)];have e:w64 (w64 ((32:Int)+(b:Int))-1)=((32+b-1:Nat):Int):=by
  have a:w64 ((32:Int)+(b:Int))=((32+b:Nat):Int):=by rw[BM (by omega)];omega
  rw[a,BM (by omega)];omega
 simp only[e];rw[Se,nS,Aa2 (by omega),<- Int.ofNat_tdiv];unfold nps at this |-;generalize (32+b-1)/b=q at this |-;rw[bA (by omega)]
theorem mO{n:Nat}(h:n<18446744073709551616):IntKind.wrap .u64 (n:Int)=n:=IntWalk.u64_in _ (by omega)
theorem K6{n:Nat}(h:n<4294967296):IntKind.wrap .u32 (n:Int)=n:=IntWalk.u32_in _ (by omega)
theorem AOe{x b:Nat}(d:x<4294967296)(c:b<=16):IntKind.wrap .u32 (BitVec.ofInt (IntKind.bits .u32) (x:Int) &&& BitVec.ofInt (IntKind.bits .u32) ((2 ^ b-1:Nat):Int)).toNat=((x % 2 ^ b:Nat):Int):=by
 have f:2 ^ b<=2 ^ 16:=AdQ (by omega) c;have g:(2:Nat) ^ 16=65536:=by decide
 have e:(BitVec.ofInt (IntKind.bits .u32) (x:Int) &&& BitVec.ofInt (IntKind.bits .u32) ((2 ^ b-1:Nat):Int)).toNat=x % 2 ^ b:=by rw[BitVec.toNat_and,Ac3,Ac3,AdE,AdE];have a:IntKind.bits .u32=32:=rfl;rw[a,AcV (by omega),AcV (by omega),Nat.and_two_pow_sub_one_eq_mod]
 rw[e];have:=Nat.mod_le x (2 ^ b);exact K6 (by omega)
theorem zY{x p b:Nat}(g:x<4294967296)(c:1<=b)(a:b<=16)(d:p<nps b):XL ((x:Int),(p:Int),(b:Int),())=some (((x/2 ^ (p*b) % 2 ^ b:Nat):Int),()):=by
 have h:=(AOY c).1 d;have r:=oA (b:=b);rw[jr,cj];have i:nH ((p:Int),(b:Int),())=some (true,()):=by rw[jg,cU];rw[BR,Aar (by omega)];simp only[PI c a];rw[A3,Aar d]
 have j:IntKind.wrap .u64 (w64 ((p:Int)*(b:Int)))=((p*b:Nat):Int):=by rw[<- AdY,BM (by omega),mO (by omega)]
 have k:IntKind.wrap .u64 (b:Int)=(b:Int):=mO (by omega);have l:shr? .u32 (x:Int) ((p*b:Nat):Int)=some ((x/2 ^ (p*b):Nat):Int):=by
  rw[cD,yr,Aa2 (by omega)];have:min ((p*b:Nat):Int).toNat (IntKind.bits .u32)=p*b:=by show min _ 32=_;omega
  grind
 have m:2 ^ b<=2 ^ 16:=AdQ (by omega) a;have e:(2:Nat) ^ 16=65536:=by decide
 have f:=AdZ b;have n:shl? .u32 (1:Int) (b:Int)=some ((2 ^ b:Nat):Int):=by
  rw[SW,mu,Aa2 (by omega)];have:min (b:Int).toNat (IntKind.bits .u32)=b:=by show min _ 32=_;omega
  rw[this,Int.one_mul,show(2:Int) ^ b=((2 ^ b:Nat):Int) by simp,K6 (by omega)]
 have o:IntKind.wrap .u32 (((2 ^ b:Nat):Int)-1)=((2 ^ b-1:Nat):Int):=by rw[show((2 ^ b:Nat):Int)-1=((2 ^ b-1:Nat):Int) by omega,K6 (by omega)]
 have q:x/2 ^ (p*b)<4294967296:=Nat.lt_of_le_of_lt (Nat.div_le_self _ _) g;simp only[i,Aav,j,k,l,n,o];rw[AOe q a]
section
variable {ks l:List Nat} {b p:Nat} (hk:∀ x∈ks,x<4294967296) (hb:1<=b) (hb2:b<=16) (hp:p<nps b) (hn:ks.length<=1000) (hl:l.Perm (List.range ks.length))
include hk hb hb2 hp hn hl
def dgt(ks:List Nat)(b p:Nat)(i:Nat):Nat:=ks.getD i 0/2 ^ (p*b) % 2 ^ b
omit hl hn in
theorem pT{i:Nat}(hi:i<ks.length):∃ x:Nat,ks[i]? = some x/\XL ((x:Int),(p:Int),(b:Int),())=some ((dgt ks b p i:Int),())/\dgt ks b p i<2 ^ b:=by obtain⟨x,a⟩:=Cf hi;refine⟨x,a,?_,Acr _ (AdZ b)⟩;rw[zY (hk x (Aay a)) hb hb2 hp];unfold dgt;grind
def ACi(d:Nat->Nat)(l:List Nat):Nat->Int
 |0=>(0:Int)
 |v+1=>((bkt d l v).length:Int)
def P_(d:Nat->Nat)(B:Nat)(l:List Nat):List Int:=(List.range (B+1)).map (ACi d l)
omit hk hb hb2 hp hn hl in
theorem pr(d:Nat->Nat)(B:Nat)(l:List Nat){j:Nat}(h:j<B+1):(P_ d B l)[j]? = some (ACi d l j):=by unfold P_;grind
omit hk hb hb2 hp hn hl in
theorem fP(d:Nat->Nat)(B:Nat)(l:List Nat):(P_ d B l).length=B+1:=by simp[P_]
omit hk hb hb2 hp hn hl in
theorem wx(d:Nat->Nat)(l:List Nat)(x v:Nat):bkt d (l++[x]) v=bkt d l v++(if d x==v then [x]else []):=by unfold bkt;grind
omit hk hb hb2 hp hn hl in
theorem AKI(d:Nat->Nat)(B:Nat)(l:List Nat)(x:Nat):P_ d B (l++[x])=(P_ d B l).set (d x+1) (((bkt d l (d x)).length+1:Nat):Int):=by
 apply Abe;intro j;rw[Acz,fP];by_cases a:j<B+1;rw[pr d B _ a];by_cases h:d x+1=j;subst h;rw[Aa5 rfl,Aa5 a];simp[ACi,wx];rw[Aa2 h,pr d B _ a];cases j with
  |zero=>rfl
  |succ v=>have:¬ d x=v:=fun e=>h (by omega);simp[ACi,wx,this]
 rw[AcS (l:=P_ d B (l++[x])) (by rw[fP];omega)];by_cases h:d x+1=j;grind;rw[Aa2 h];exact(AcS (by rw[fP];omega)).symm
def Vv(d:Nat->Nat)(B:Nat)(l:List Nat)(k:Nat):List Int:=(List.range (B+1)).map fun v=>if v<=k then(Ff d l v:Int)else ACi d l v
omit hk hb hb2 hp hn hl in
theorem AKl(d:Nat->Nat)(B:Nat)(l:List Nat):Vv d B l 0=P_ d B l:=by
 unfold Vv P_;refine AcN fun v _ => ?_;cases v with
  |zero=>rfl
  |succ v=>omega
omit hk hb hb2 hp hn hl in
theorem aV(d:Nat->Nat)(B:Nat)(l:List Nat)(k:Nat){v:Nat}(a:v<B+1):(Vv d B l k)[v]? = some (if v<=k then(Ff d l v:Int)else ACi d l v):=by unfold Vv;grind
omit hk hb hb2 hp hn hl in
theorem AKm(d:Nat->Nat)(B:Nat)(l:List Nat){k:Nat}(h:k<B):(Vv d B l k)[k]? = some (Ff d l k:Int)/\(Vv d B l k)[k+1]? = some ((bkt d l k).length:Int)/\(Vv d B l k).set (k+1) (Ff d l (k+1):Int)=Vv d B l (k+1):=by
 refine⟨by rw[aV d B l k (by omega),Aa5 (Aax _)],by rw[aV d B l k (by omega),Aa2 (by omega)];rfl,?_⟩;have a:∀ k,(Vv d B l k).length=B+1:=fun k=>by simp[Vv]
 apply Abe;intro j;rw[Acz,a];by_cases e:j<B+1;rw[aV d B l (k+1) e];by_cases c:k+1=j;grind;rw[Aa2 c,aV d B l k e];grind;grind
def n9(d:Nat->Nat)(B:Nat)(l:List Nat)(t:Nat):List Int:=(List.range (B+1)).map fun v=>((Ff d l v+(bkt d (l.take t) v).length:Nat):Int)
omit hk hb hb2 hp hn hl in
theorem dT(d:Nat->Nat)(B:Nat)(l:List Nat)(t:Nat){v:Nat}(h:v<B+1):(n9 d B l t)[v]? = some ((Ff d l v+(bkt d (l.take t) v).length:Nat):Int):=by unfold n9;grind
omit hk hb hb2 hp hn hl in
theorem AIA(d:Nat->Nat)(B:Nat)(l:List Nat){t x:Nat}(h:l[t]? = some x):(n9 d B l t).set (d x) ((Ff d l (d x)+(bkt d (l.take t) (d x)).length+1:Nat):Int)=n9 d B l (t+1):=by
 have a:∀ t,(n9 d B l t).length=B+1:=fun t=>by simp[n9]
 apply Abe;intro j;rw[Acz];by_cases c:j<B+1;have hb:bkt d (l.take (t+1)) j=bkt d (l.take t) j++(if d x==j then [x]else []):=by rw[Co h];unfold bkt;grind
 rw[dT d B l _ c,dT d B l _ c,hb];grind;grind
theorem AS3:rby (nI ks,nI l,(p:Int),(b:Int),())=some (nI (GM (dgt ks b p) (2 ^ b) l),()):=by
 have h16:2 ^ b<=2 ^ 16:=AdQ (by omega) hb2;have T:(2:Nat) ^ 16=65536:=by decide
 have U:=AdZ b;have I:=hl.length_eq;rw[Aa9]at I;generalize J:2 ^ b=B at *;have hd:∀ {t x:Nat},l[t]? = some x->x<ks.length:=fun h=>AbI.1 (hl.mem_iff.1 (Aay h));have f:∀ i∈l,dgt ks b p i<B:=fun i hi=>by obtain⟨x,_,_,h⟩:=pT hk hb hb2 hp (AbI.1 (hl.mem_iff.1 hi));omega
 have m:∀ (K:List Nat) v,(bkt (dgt ks b p) K v).length<=K.length:=fun K v=>Ach _ _;have e:=Y_ f;have A:∀ v,v<=B->Ff (dgt ks b p) l v<=1000:=fun v hv=>by have L:=(fH (dgt ks b p) l v).length_eq;have V:=Ach (fun i=>decide (dgt ks b p i<v)) l;unfold Ff;omega
 rw[AM6,AM7];have e1:IntKind.wrap .u64 (b:Int)=(b:Int):=mO (by omega);have e2:shl? .i64 (1:Int) (b:Int)=some (B:Int):=by
  rw[SW,mu,Aa2 (by omega)];have:min (b:Int).toNat (IntKind.bits .i64)=b:=by show min _ 64=_;omega
  rw[this,Int.one_mul,show(2:Int) ^ b=((2 ^ b:Nat):Int) by simp,J,bA (by omega)]
 simp only[e1,e2];rw[A6 (by omega)];simp only[Fj (show B+1<=4294967296 by omega),Gy,A7,Ck]
 have W:=Gc (step:=cn) (fun t=>(nI ks,nI l,(p:Int),(b:Int),P_ (dgt ks b p) B (l.take t),nI l,(l.length:Int),(t:Int),())) l.length (.inl (nI ks,nI l,(p:Int),(b:Int),P_ (dgt ks b p) B l,())) (by omega)
  (fun t d=>by
   obtain⟨x,c⟩:=Cf d
   obtain⟨y,s,n,o⟩:=pT hk hb hb2 hp (hd c)
   rw[J]at o
   have u:(P_ (dgt ks b p) B (l.take t))[dgt ks b p x+1]? = some ((bkt (dgt ks b p) (l.take t) (dgt ks b p x)).length:Int):=pr _ _ _ (by omega)
   have q:=m (l.take t) (dgt ks b p x)
   rw[AbU]at q
   have hw:IntKind.wrap .u32 ((dgt ks b p x:Int)+1)=((dgt ks b p x+1:Nat):Int):=by
    rw[show(dgt ks b p x:Int)+1=((dgt ks b p x+1:Nat):Int) by omega,K6 (by omega)]
   rw[cn,A3,Aar d]
   simp only[BA (E0 c),BA (E0 s),n,hw,BA u,CQ u,D8]
   rw[A6 (by omega),A6 (by omega),Co c,AKI])
  (by rw[cn,A3,Aaq (by omega),AbM])
 have z0:P_ (dgt ks b p) B (l.take 0)=List.replicate (B+1) (0:Int):=by rw[List.take_zero];unfold P_;apply AdO (by simp);intro i _ _;cases i<;>simp[bkt,ACi]
 rw[z0]at W;have M:A' cn many (nI ks,nI l,(p:Int),(b:Int),List.replicate (B+1) (0:Int),nI l,(l.length:Int),(0:Int),())=_:=W;simp only[M]
 have X:=Gc (step:=ck) (fun k=>(nI ks,nI l,(p:Int),(b:Int),Vv (dgt ks b p) B l k,(B:Int),(k:Int),())) B (.inl (nI ks,nI l,(p:Int),(b:Int),Vv (dgt ks b p) B l B,())) (by omega)
  (fun k C=>by
   obtain⟨Y,Z,g3⟩:=AKm (dgt ks b p) B l C
   have hb1:=m l k
   have hb2:=A k (by omega)
   rw[ck,A3,Aar C]
   rw[A6 (by omega)]
   simp only[BA Y,BA Z,CQ Y,CQ Z,D8]
   rw[wrap_add (by omega),<- g3,wo,Nat.add_comm (bkt (dgt ks b p) l k).length])
  (by rw[ck,A3,Aaq (by omega)])
 rw[AKl]at X;have N:A' ck many (nI ks,nI l,(p:Int),(b:Int),P_ (dgt ks b p) B l,(B:Int),(0:Int),())=_:=X;have O:((P_ (dgt ks b p) B l).length:Int)-1=(B:Int):=by simp[P_]
 rw[O,BM (by omega)];simp only[N,Ck,Fj (show l.length<=4294967296 by omega),Gy];have D:l.Nodup:=hl.nodup_iff.2 AcM;have r:∀ t,t<l.length->(GM (dgt ks b p) B l)[Rx (dgt ks b p) l t]? = some (l.getD t 0):=fun t d=>by obtain⟨x,c⟩:=Cf d;rw[wK f c,AbG,c];rfl
 have E:∀ i∈List.range l.length,∀ j∈List.range l.length,Rx (dgt ks b p) l i=Rx (dgt ks b p) l j->i=j:=fun i hi j w he=>by have hi:=AbI.1 hi;have w:=AbI.1 w;have L:=r i hi;have V:=r j w;rw[he,V]at L;obtain⟨x,c⟩:=Cf hi;obtain⟨y,s⟩:=Cf w;have P:=Option.some.inj L;rw[AbG,AbG,c,s]at P;simp only[Abg]at P;subst P;exact(AdK (E2 c) D).1 (c.trans s.symm)
 have q2:=Gc (step:=nQ) (fun t=>(nI ks,(p:Int),(b:Int),n9 (dgt ks b p) B l t,(List.range t).foldl (fun a i=>a.set (Rx (dgt ks b p) l i) ((l.getD i 0:Nat):Int)) (List.replicate l.length (0:Int)),nI l,(l.length:Int),(t:Int),())) l.length (.inl (nI (GM (dgt ks b p) B l),())) (by omega)
  (fun t d=>by
   obtain⟨x,c⟩:=Cf d
   obtain⟨y,s,n,o⟩:=pT hk hb hb2 hp (hd c)
   rw[J]at o
   have hg:l.getD t 0=x:=by grind
   have u:=dT (dgt ks b p) B l t (v:=dgt ks b p x) (by omega)
   have q:=m (l.take t) (dgt ks b p x)
   rw[AbU]at q
   have hs1:=A (dgt ks b p x) (by omega)
   have F:Ff (dgt ks b p) l (dgt ks b p x)+(bkt (dgt ks b p) (l.take t) (dgt ks b p x)).length=Rx (dgt ks b p) l t:=by unfold Rx;rw[hg]
   have hplt:Rx (dgt ks b p) l t<l.length:=by
    have:=E2 (r t d)
    rw[e.length_eq]at this;omega
   obtain⟨z,hz⟩:=Cf (xs:=(List.range t).foldl (fun a i=>a.set (Rx (dgt ks b p) l i) ((l.getD i 0:Nat):Int)) (List.replicate l.length (0:Int))) (i:=Rx (dgt ks b p) l t) (by
    rw[JO (Rx (dgt ks b p) l) (fun i=>((l.getD i 0:Nat):Int)),Aba];omega)
   rw[nQ,A3,Aar d]
   simp only[BA (E0 c),BA (E0 s),n,BA u,CQ u]
   rw[F]at u |-
   simp only[BA hz,D8]
   rw[A6 (by omega),A6 (by omega),<- AIA (dgt ks b p) B l c,F,AbJ,AcB]
   grind)
  (by
   rw[nQ,A3,Aaq (by omega)]
   have G:=va (g:=Rx (dgt ks b p) l) (v:=fun i=>((l.getD i 0:Nat):Int)) (List.range l.length) (List.replicate l.length (0:Int)) AcM E
   have:(List.range l.length).foldl (fun a i=>a.set (Rx (dgt ks b p) l i) ((l.getD i 0:Nat):Int)) (List.replicate l.length (0:Int))=nI (GM (dgt ks b p) B l):=by
    apply Abe
    intro j
    by_cases w:j<l.length
    ·obtain⟨x,c⟩:=Cf (xs:=GM (dgt ks b p) B l) (i:=j) (by rw[e.length_eq];exact w)
     obtain⟨t,d⟩:=Acn (e.mem_iff.1 (Aay c))
     have Q:=E2 d
     have H:=wK f d
     have R:(GM (dgt ks b p) B l).Nodup:=e.nodup_iff.2 D
     have S:Rx (dgt ks b p) l t=j:=(AdK (E2 H) R).1 (H.trans c.symm)
     have:=G t (AbI.2 Q) (by grind)
     rw[S]at this
     rw[this,E0 c,AbG,d];rfl
    ·rw[AcS (by rw[JO (Rx (dgt ks b p) l) (fun i=>((l.getD i 0:Nat):Int)),Aba];omega),AcS (by rw[Ck,e.length_eq];omega)]
   rw[this])
 have z2:Vv (dgt ks b p) B l B=n9 (dgt ks b p) B l 0:=by unfold Vv n9;refine AcN fun v hv => ?_;grind
 grind
end
abbrev AXX:=Int×Int×List (List Int)×Unit
abbrev OG:=Int×Int×AXX×Unit
def NF(w:OG):Prop:=1<=w.1/\w.1<=16/\1<=w.2.1/\w.2.1<=100/\H3 w.2.2.1
def ZV(a:List Nat)(i:Nat):Nat:=a.getD i 0
def AOS(a:List Nat)(b:Nat):List Nat:=cX (ZV a) b (List.range a.length) (nps b)
def srt(a:List Nat)(b:Nat):List Nat:=(AOS a b).map (ZV a)
theorem kB(a:List Nat)(b:Nat):(AOS a b).Perm (List.range a.length):=(jh _ _ _ _).1
theorem O9(a:List Nat)(b:Nat):(srt a b).Perm a:=by
 have h:=(kB a b).map (ZV a);have:(List.range a.length).map (ZV a)=a:=by apply AdO (by simp);intro i d c;simp[ZV,Aaz c]
 rw[this]at h;exact h
section
variable {ks:List Nat} {b c:Nat} {p:AXX} (hk:∀ x∈ks,x<4294967296) (hn:ks.length<=1000)
theorem AGm(f:1<=b)(e:b<=16)(r:1<=c)(g:c<=100)(hk:∀ x∈ks,x<4294967296)(hn:ks.length<=1000){U:List Nat}{k:Nat}(h:k<=40000)(s:U.Perm (List.range (nbl ks.length c)))(t:Ct ((nbl ks.length c:Int),p,())=some (nI U,(k:Int),0,())):
  ji (nI ks,(b:Int),(c:Int),p,())=some (nI (AOS ks b),((2*k*nps b:Nat):Int),0,()):=by
 have v:ieq (0:Int) 0=true:=by rw[BI];rfl
 have j:=oA (b:=b);have n:=AEV f;have w:=jR (xs:=nI ks) (b:=c) (by rw[Ck];exact hn) r g (p:=p) (U:=U) (k:=k) h (by rw[Ck];exact s) (by rw[Ck];exact t);obtain⟨a,d,q,u⟩:=p;rw[cW,Zw];simp only[PI f e];rw[BI,Aaq (by omega)];simp only[w,v,Aav,A7,Ck]
 have y:=Gc (step:=PH) (fun i=>(nI ks,(b:Int),(nps b:Int),((2*k:Nat):Int),nI (List.range i),(ks.length:Int),(i:Int),())) ks.length (.inl (nI ks,(b:Int),(nps b:Int),((2*k:Nat):Int),nI (List.range ks.length),())) (by omega)
  (fun i hi=>by
   rw[PH,A3,Aar hi,A7,Ck,Aa9,A7]
   simp only[Aa1,Aa8]
   rw[CM (by omega),A6 (by omega)]
   simp only[ES]
   rw[AbJ]
   unfold nI
   simp)
  (by rw[PH,A3,Aaq (by omega)])
 have l:A' PH many (nI ks,(b:Int),(nps b:Int),((2*k:Nat):Int),([]:List Int),(ks.length:Int),(0:Int),())=_:=y;simp only[l]
 have z:=Gc (step:=PG) (fun i=>(nI ks,(b:Int),(nps b:Int),((2*k:Nat):Int),nI (cX (ZV ks) b (List.range ks.length) i),(nps b:Int),(i:Int),())) (nps b) (.inl ((nps b:Int),((2*k:Nat):Int),nI (AOS ks b),())) (by omega)
  (fun i hi=>by
   have A:=(jh (ZV ks) b (List.range ks.length) i).1
   rw[PG,A3,Aar hi]
   simp only[AS3 hk f e hi hn A]
   rw[A6 (by omega)]
   rfl)
  (by rw[PG,A3,Aaq (by omega)];rfl)
 have m:A' PG many (nI ks,(b:Int),(nps b:Int),((2*k:Nat):Int),nI (List.range ks.length),(nps b:Int),(0:Int),())=_:=z;simp only[m];have o:2*k*nps b<=80000*47:=Aca (by omega) j;rw[<- AdY,BM (by omega)]
theorem AGn{xs:List Int}{w:OG}(h:¬ (NF w/\xs.length<=1000)):ji (xs,w.1,w.2.1,w.2.2.1,())=some ([],0,1,()):=by
 obtain⟨b,c,⟨a,d,q,u⟩,v⟩:=w;rw[cW,Zw];by_cases f:1<=b/\b<=16;obtain⟨b,rfl⟩:=Aaw (show 0<=b by omega);have g:=AEV (b:=b) (by omega);have i:ieq (1:Int) 0=false:=by rw[BI];rfl
 have j:=AGH (xs:=xs) (b:=c) (p:=(a,d,q,u)) (fun e=>h ⟨⟨f.1,f.2,e.1,e.2.1,e.2.2.2⟩,e.2.2.1⟩);simp only[PI (b:=b) (by omega) (by omega)];grind;simp only[sZ f];rw[BI,Aar rfl]
theorem AGq{l:List Nat}{n:Nat}(g:l.Perm (List.range n))(hn:n<=1000):ADs (nI l,(n:Int),())=some (true,()):=by
 have a:=g.length_eq;rw[Aa9]at a;have h:l.Nodup:=g.nodup_iff.2 AcM;rw[si,nK]
 have q:=Gc (step:=PJ) (fun i=>(nI l,(n:Int),M1 (l.take i),nI l,(l.length:Int),(i:Int),())) l.length (.inr (.inl (nI l,(n:Int),()))) (by omega)
  (fun i hi=>by
   obtain⟨x,e⟩:=Cf hi
   have r:x<n:=AbI.1 (g.mem_iff.1 (Aay e))
   have d:x∉l.take i:=by
    intro s
    obtain⟨j,f⟩:=Acn s
    rw[AdA]at f
    split at f
    ·have:=(AdK (E2 f) h).1 (f.trans e.symm)
     omega
    grind
   obtain⟨o,t⟩:=xN d
   have k:w64 (((A_ (M1 (l.take i)) (x:Int)).getD (0:Int))+(1:Int))=1:=by
    rw[t];exact BM (by decide)
   have m:A_ (M1 (l.take i++[x])) (x:Int)=some 1:=by
    rw[<- o,FM,Aa5 rfl]
   rw[PJ,A3,Aar hi]
   simp only[BA (E0 e)]
   rw[BF,Aaq (by omega),EN,Aaq (by omega)]
   simp only[k,o,m,Abg]
   rw[BF,Aaq (by decide),A6 (by omega),Co e])
  (by rw[PJ,A3,Aaq (by omega)])
 have u:A' PJ many (nI l,(n:Int),([]:List (Int×Int)),nI l,(l.length:Int),(0:Int),())=_:=q;simp only[A7,Ck,u];rw[oX,Aar a]
theorem AOs{i:Nat}(h:i<ks.length):ks[i]? = some (ZV ks i):=by unfold ZV;grind
theorem sY{l:List Nat}(a:l.Perm (List.range ks.length))(hn:ks.length<=1000):Tw (nI ks,nI l,())=some (nI (l.map (ZV ks)),true,()):=by
 have d:=a.length_eq;rw[Aa9]at d;rw[cV,XG];simp only[A7,Ck,AGq a hn,Aav]
 have q:=Gc (step:=KQ) (fun i=>(nI ks,nI ((l.take i).map (ZV ks)),nI l,(l.length:Int),(i:Int),())) l.length (.inl (nI (l.map (ZV ks)),())) (by omega)
  (fun i hi=>by
   obtain⟨x,e⟩:=Cf hi
   have f:x<ks.length:=AbI.1 (a.mem_iff.1 (Aay e))
   rw[KQ,A3,Aar hi]
   simp only[BA (E0 e),BA (E0 (AOs f)),A7,Ck,AbN,AbU,Aa1,Aa8]
   rw[CM (by omega),A6 (by omega),Co e]
   simp only[ES]
   unfold nI
   simp)
  (by rw[KQ,A3,Aaq (by omega),AbM])
 have g:A' KQ many (nI ks,([]:List Int),nI l,(l.length:Int),(0:Int),())=_:=q;grind
theorem wD(s:List Int)(k:s.length<=1000000):aT (s,())=some (S_ s,()):=by
 rw[fD,X4]
 have q:=Gc (step:=Kp) (fun i=>(s,On s.length (fun i=>decide (i=0)||decide (s.getD (i-1) 0≠s.getD i 0)) false i,s,(s.length:Int),(i:Int),())) s.length (.inl (S_ s,())) (by omega)
  (fun i hi=>by
   obtain⟨x,a⟩:=Cf hi
   obtain⟨y,d⟩:=Cf (xs:=On s.length (fun i=>decide (i=0)||decide (s.getD (i-1) 0≠s.getD i 0)) false i) (i:=i) (by rw[PZ];exact hi)
   rw[Kp,A3,Aar hi]
   simp only[BA a,BA d,D8]
   rw[A6 (by omega),<- dN,BI]
   by_cases l:i=0
   ·grind
   ·obtain⟨j,rfl⟩:∃ j,i=j+1:=⟨i-1,by omega⟩
    obtain⟨z,e⟩:=Cf (xs:=s) (i:=j) (by omega)
    rw[Aaq (by omega),show((j+1:Nat):Int)-1=(j:Int) by omega,BM (by omega)]
    simp only[BA e]
    have f:s.getD j 0=z:=by grind
    have g:s.getD (j+1) 0=x:=by grind
    have:(!(ieq z x))=(decide (j+1=0)||decide (s.getD (j+1-1) 0≠s.getD (j+1) 0)):=by
     rw[Adf,f,g,BI];simp
    rw[this])
  (by rw[Kp,A3,Aaq (by omega),dP];rfl)
 rw[XT]at q;have h:A' Kp many (s,List.replicate s.length false,s,(s.length:Int),(0:Int),())=_:=q;simp only[A7,Fj (show s.length<=4294967296 by omega),Gy,h]
def dR(s:List Int):List Int:=(kept (S_ s) s.length).map fun i=>s.getD i 0
theorem APn(s:List Int):(S_ s).length=s.length:=by simp[S_]
theorem vY{s:List Int}{i:Nat}(h:i<s.length):(S_ s).getD i false=(decide (i=0)||decide (s.getD (i-1) 0≠s.getD i 0)):=by unfold S_;grind
theorem dX{s:List Int}{x:Int}:x∈dR s↔x∈s:=by
 unfold dR;rw[AbA];constructor;rintro⟨i,hi,rfl⟩;have:=AbI.1 (AbS.1 hi).1;grind;intro h;have d:∀ i,i<s.length->s.getD i 0=x->∃ j,j∈kept (S_ s) s.length/\s.getD j 0=x:=by
  intro i;induction i with
   |zero=>intro hi a;exact⟨0,AbS.2 ⟨AbI.2 hi,by rw[vY hi];rfl⟩,a⟩
   |succ i f=>intro hi a;by_cases e:s.getD i 0=x;grind;refine⟨i+1,AbS.2 ⟨AbI.2 hi,?_⟩,a⟩;rw[vY hi,Adf,a,Aar e];simp
 obtain⟨i,hi⟩:=Acn h;grind
theorem wA(C:1<=b)(n:b<=16)(v:1<=c)(g:c<=100)(hk:∀ x∈ks,x<4294967296)(hn:ks.length<=1000){U V:List Nat}{k m:Nat}(h:k<=40000)(o:m<=40000)(D:U.Perm (List.range (nbl ks.length c)))(E:Ct ((nbl ks.length c:Int),p,())=some (nI U,(k:Int),0,()))
  (R:V.Perm (List.range ks.length)) (F:Ct ((ks.length:Int),p,())=some (nI V,(m:Int),0,())) :
  ∃ T,VR (nI ks,((b:Int),(c:Int),p,()),())=some (dR (nI (srt ks b)),T,((2*k*nps b+(2*k+m):Nat):Int),0,()):=by
 have G:ieq (0:Int) 0=true:=by rw[BI];rfl
 have r:=oA (b:=b);have w:2*k*nps b<=80000*47:=Aca (by omega) r;have e:(srt ks b).length=ks.length:=(O9 ks b).length_eq;have j:=AGm (p:=p) C n v g hk hn h D E;have H:=sY (kB ks b) hn;have s:Tw (nI ks,nI (AOS ks b),())=some (nI (srt ks b),true,()):=H;have I:=wD (nI (srt ks b)) (by rw[Ck,e];omega);have J:(S_ (nI (srt ks b))).length=ks.length:=by rw[APn,Ck,e]
 have K:=za (keep:=S_ (nI (srt ks b))) (b:=c) (p:=p) (U:=U) (V:=V) (k:=k) (m:=m) (by omega) v g h o (by grind) (by grind) (by grind) (by grind);obtain⟨a,d,q,u⟩:=p;rw[TE,Q_];simp only[j,G,Aav,s,I,K];generalize z:kept (S_ (nI (srt ks b))) (S_ (nI (srt ks b))).length=P;generalize L:nI (srt ks b)=S at *;have M:S.length=ks.length:=by rw[<- L,Ck,e]
 have N:P.length<=1000:=by rw[<- z];have:=aB (S_ S) (S_ S).length;omega
 have t:∀ {i x:Nat},P[i]? = some x->S[x]? = some (S.getD x 0)/\x<=1000:=fun {i x} f=>by have:=Aay f;rw[<- z]at this;have:=AbI.1 (AbS.1 this).1;grind
 let l:Nat->Int:=fun i=>if i+1<P.length then w64 ((P.getD (i+1) 0:Nat)-(P.getD i 0:Nat):Int)else w64 ((S.length:Int)-(P.getD i 0:Nat))
 have Q:=Gc (step:=Ko) (fun i=>(((2*k*nps b:Nat):Int),S,nI P,((2*k+m:Nat):Int),(P.take i).map (fun i=>S.getD i 0),(List.range i).map l,(P.length:Int),(i:Int),())) P.length
  (.inl (((2*k*nps b:Nat):Int),((2*k+m:Nat):Int),P.map (fun i=>S.getD i 0),(List.range P.length).map l,())) (by omega)
  (fun i hi=>by
   obtain⟨x,f⟩:=Cf hi
   obtain⟨A,W⟩:=t f
   have X:P.getD i 0=x:=by grind
   rw[Ko,A3,Aar hi]
   simp only[BA (E0 f),CQ (E0 f),A7,Ck]
   rw[A6 (by omega),A3]
   simp only[BA A,CQ A,AbN,AbU,Aa9,Aa1,Aa8]
   rw[CM (by omega),CM (by omega)]
   simp only[ES]
   rw[Co f,AbJ,Abm,Abm]
   by_cases j:i+1<P.length
   ·obtain⟨y,B⟩:=Cf j
    have O:P.getD (i+1) 0=y:=by grind
    have:l i=w64 ((y:Int)-(x:Int)):=by
     grind
    simp only[Aar j,BA (E0 B),CQ (E0 B),AbL,AcE,this]
   grind)
  (by rw[Ko,A3,Aaq (by omega),AbM])
 have Q':A' Ko many (((2*k*nps b:Nat):Int),S,nI P,((2*k+m:Nat):Int),([]:List Int),([]:List Int),(P.length:Int),(0:Int),())=_:=Q;refine⟨(List.range P.length).map l,?_⟩;simp only[Ck,A7,Q'];rw[wrap_add (by omega)];have:dR S=P.map fun i=>S.getD i 0:=by unfold dR;grind
 rw[this]
end
end Go.Pev.Pl
end
section
namespace Go.Pev.Pl.SE
open Go.Sort
theorem OD{x y:Int×Int×Unit}(_:ok x)(_:ok y):∃ c,Bp (x,y,())=some (c,())/\ilt c (0:Int)=lt x y:=by rw[Ps,N3];simp only[P9,or_val,BF,lt];grind
noncomputable def S:SG.SP (Int×Int×Unit) Int:=⟨((0:Int),((0:Int),())),Bp,tLt,ok,okz,So,lt,swo,fun a b=>OD a b⟩
theorem Ga(xs:List (Int×Int×Unit))(h:xs.length<4294967296)(a:∀ x∈xs,ok x):∃ ys,ADh (xs,())=some (ys,())/\ys.Perm xs/\ys.Pairwise fun x y=>lt y x=false:=SG.Ga S xs h a
end Go.Pev.Pl.SE
namespace Go.Pev.Pl
open Tok
section
variable {α β:Type} [DecidableEq α]
end
theorem u9(l:List Edge)(n:Int)(ts:List Tie)(b:List Edge)(j:b.length<1073741824):
  ∃ m:List (Edge×Int),A' Q2 many (l,n,ts,([]:List (Edge×Int)),b,A2 b,(0:Int),())=some (.inl (l,n,ts,m,()))/\∀ k,(A_ m k).getD 0=if k∈b then 1 else 0:=by
 have e:=EC (step:=Q2) (fun i (a:List (Edge×Int))=>(l,n,ts,a,b,A2 b,(i:Int),())) b (fun x a=>.inl (BH a x (1:Int))) (fun a=>.inl (l,n,ts,a,())) (fun i a=>True) (by omega)
  (fun i x a hi f _=>by
   refine⟨fun o c => ?_,fun r c=>(by cases c)⟩
   cases c
   refine⟨?_,trivial⟩
   rw[Q2,A7,A3,Aar hi]
   simp only[BA f,CQ f]
   rw[A6 (by omega)])
  (fun a _=>by rw[Q2,A7,A3,Aaq (by omega)]) [] trivial
 have g:A' Q2 many (l,n,ts,([]:List (Edge×Int)),b,A2 b,(0:Int),())=_:=e;rw[CV (fun(x:Edge) (a:List (Edge×Int))=>BH a x (1:Int))]at g;refine⟨_,g,?_⟩;have d:∀ (xs:List Edge) (a:List (Edge×Int)) (k:Edge),(A_ (xs.foldl (fun a x=>BH a x (1:Int)) a) k).getD 0=if k∈xs then 1 else(A_ a k).getD 0:=by
  intro xs;induction xs with
   |nil=>simp
   |cons x xs h=>intro a k;rw[Abu,h,R6];grind
 intro k;rw[d];rfl
theorem AJR(n:Int)(ts:List Tie)(m:List (Edge×Int))(l:List Edge)(s:l.length<1073741824):
  A' Q1 many (n,ts,m,([]:List Edge),l,A2 l,(0:Int),())=some (walk (ZT n) (fun a=>.inr (.inl (a.2,()))) l (m,[])):=by
 have e:=EC (step:=Q1) (fun i (a:List (Edge×Int)×List Edge)=>(n,ts,a.1,a.2,l,A2 l,(i:Int),())) l (ZT n) (fun a=>.inr (.inl (a.2,()))) (fun i a=>a.2.length<=i) (by omega)
  (fun i x a hi o t=>by
   have step:Q1 (n,ts,a.1,a.2,l,A2 l,(i:Int),())=match ZT n x a with
     |.inl g=>some (.inl (n,ts,g.1,g.2,l,A2 l,((i+1:Nat):Int),()))
     |.inr r=>some (.inr r):=by
    rw[Q1,A7,A3,Aar hi]
    simp only[BA o,aH,aI]
    rw[BF,BR,BF,BI,A6 (by omega),CM (by simp only[A7,Aa1,Aa8];omega)]
    unfold ZT
    have b:(nrm x).1=min x.1 x.2.1:=rfl
    have c:(nrm x).2.1=max x.1 x.2.1:=rfl
    have d:(min x.1 x.2.1,max x.1 x.2.1,())=nrm x:=rfl
    rw[d,<- b,<- c]
    by_cases p:(nrm x).1<0
    ·grind
    rw[Aaq p]
    by_cases q:n<=(nrm x).2.1
    ·grind
    rw[Aaq q,Aa2 (fun h=>by omega)]
    by_cases j:(nrm x).1<(nrm x).2.1
    ·rw[Aar j]
     by_cases k:(A_ a.1 (nrm x)).getD 0=0
     ·rw[Aar k,Aa5 ⟨j,k⟩]
      rfl
     grind
    grind
   refine⟨fun u f => ?_,fun r f => ?_⟩
   ·rw[f]at step
    refine⟨step,?_⟩
    unfold ZT at f
    grind
   grind)
  (fun a _=>by rw[Q1,A7,A3,Aaq (by omega)]) (m,[]) (Aax _)
 exact e
theorem eN{N:Nat}(o:1<=N)(p:N<=64)(ts:List Tie)(s:ts.length<=400)(l:List Edge)(t:l.length<1073741824)(q:D3 (((N:Int),(ts,())),())=some (true,())):
  AJS (((N:Int),(ts,())),l,())=some (if ∀ e∈l,In (N:Int) e.1/\In (N:Int) e.2.1 then(B4 N ts l,0,())else([],10,())):=by
 obtain⟨m,u,F⟩:=u9 l (N:Int) ts (ts.map ed) (by grind);rw[AEq,ABn];simp only[q,Aav,dj (N:Int) ts s q,u,AJR (N:Int) ts m l t];have d:(∀ x∈l,0<=(nrm x).1/\(nrm x).2.1<(N:Int))↔∀ e∈l,In (N:Int) e.1/\In (N:Int) e.2.1:=by constructor;intro h e n;have:=h e n;simp only[nrm]at this;exact⟨vK o p (by omega),vK o p (by omega)⟩;intro h e n;obtain⟨⟨_,_,G,H⟩,⟨_,_,I,J⟩⟩:=h e n;simp only[nrm];omega
 by_cases c:∀ e∈l,In (N:Int) e.1/\In (N:Int) e.2.1;rw[Aa5 c];obtain⟨ys,v,w,y,K⟩:=AID (N:Int) (ts.map ed) l m [] (d.2 c) List.nodup_nil (fun k=>by grind)
 rw[v];have g:ys.length<4294967296:=by grind
 obtain⟨L,z,A,B⟩:=SE.Ga ys g (fun _ _=>trivial);have i:=OC N ts l;have f:ys.Perm (B4 N ts l):=by
  rw[Acw w (i.imp fun {a b} h=>by rintro rfl;unfold DY at h;omega)]
  intro k;rw[y,Qo];constructor;rintro (h|⟨r,j,x,C,rfl⟩);cases h;have:=(d.2 c) x C;refine⟨⟨this.1,j,this.2,?_⟩,r⟩;obtain⟨a,b,⟨⟩⟩:=x;unfold Lm nrm;grind;rintro⟨⟨r,j,M,D⟩,E⟩;refine .inr ⟨E,j,?_⟩;obtain⟨a,b,⟨⟩⟩:=k;simp only at j;rcases D with h|h;exact⟨_,h,by unfold nrm;grind⟩;exact⟨_,h,by unfold nrm;grind⟩
 rw[yo A B i f]at z;grind;rw[Aa2 c,oC (N:Int) l (m,[]) (fun h=>c (d.1 h))]
end Go.Pev.Pl
end
section
namespace Go.Pev.Pl
def du(e:Edge):Nat:=(min e.1 e.2.1).toNat*65536+(max e.1 e.2.1).toNat
def GV(e:Edge):Prop:=0<=e.1/\e.1<65536/\0<=e.2.1/\e.2.1<65536
theorem AT8{e:Edge}(h:GV e):du e<4294967296:=by unfold GV at h;unfold du;omega
theorem k0{n:Int}(h:0<=n/\n<65536):wC (n,())=some (true,()):=by rw[wB,pU,BR,Aar h.1,BF,Aar h.2]
theorem AOT{a b:Nat}(d:a<65536)(f:b<65536):IntKind.wrap .u32 (BitVec.ofInt (IntKind.bits .u32) ((a*65536:Nat):Int) ||| BitVec.ofInt (IntKind.bits .u32) (b:Int)).toNat=((a*65536+b:Nat):Int):=by
 have e:(BitVec.ofInt (IntKind.bits .u32) ((a*65536:Nat):Int) ||| BitVec.ofInt (IntKind.bits .u32) (b:Int)).toNat=a*65536+b:=by rw[BitVec.toNat_or,Ac3,Ac3,AdE,AdE];have c:IntKind.bits .u32=32:=rfl;rw[c,AcV (by omega),AcV (by omega)];have:=Nat.shiftLeft_add_eq_or_of_lt (i:=16) (b:=b) (by omega) a;rw[Nat.shiftLeft_eq]at this;grind
 rw[e];exact K6 (by omega)
theorem AQI{e:Edge}(h:GV e):AVC ((e.1,(e.2.1,())),())=some ((du e:Int),true,()):=by
 obtain⟨u,v,⟨⟩⟩:=e;obtain⟨a,c,b,d⟩:=h;simp only at a c b d;obtain⟨u,rfl⟩:=Aaw a;obtain⟨v,rfl⟩:=Aaw b;rw[AE6,ACO];simp only[k0 (show 0<=(u:Int)/\(u:Int)<65536 by omega),k0 (show 0<=(v:Int)/\(v:Int)<65536 by omega),Aav];have f:C8 (u:Int) (v:Int)=((min u v:Nat):Int):=by unfold C8;omega
 have g:imax (u:Int) (v:Int)=((max u v:Nat):Int):=by unfold imax;omega
 have i:min u v<65536:=by omega
 have j:max u v<65536:=by omega
 rw[f,g,K6 (by omega),K6 (by omega)];have k:shl? .u32 ((min u v:Nat):Int) (16:Int)=some ((min u v*65536:Nat):Int):=by
  rw[SW,mu,Aa2 (by omega)];have:min (16:Int).toNat (IntKind.bits .u32)=16:=by decide
  rw[this,show((min u v:Nat):Int)*2 ^ 16=((min u v*65536:Nat):Int) by omega,K6 (by omega)]
 simp only[k];rw[AOT i j];have:du ((u:Int),(v:Int),())=min u v*65536+max u v:=by unfold du;grind
 rw[this]
def bN(k:Int):Edge:=(k/65536,k % 65536,())
theorem AJ2{k:Nat}(h:k<4294967296):AE8 ((k:Int),())=some (bN k,()):=by
 rw[wF,pc];have a:shr? .u32 (k:Int) (16:Int)=some ((k:Int)/65536):=by
  rw[cD,yr,Aa2 (by omega)];have:min (16:Int).toNat (IntKind.bits .u32)=16:=by decide
  grind
 have b:IntKind.wrap .u16 (k:Int)=(k:Int) % 65536:=by simp[IntKind.wrap,IntKind.bits,IntKind.signed]
 simp only[a,b];rw[BM (by omega),BM (by omega)];rfl
theorem jF{e:Edge}(h:GV e):bN (du e:Int)=(min e.1 e.2.1,max e.1 e.2.1,()):=by obtain⟨u,v,⟨⟩⟩:=e;obtain⟨a,b,c,d⟩:=h;simp only at a b c d;unfold bN du;grind
def Dc(l:List Edge):List Nat:=(l.filter fun e=>decide (e.1≠e.2.1)).map du
theorem vE{l:List Edge}(h:∀ e∈l,GV e):∀ k∈Dc l,k<4294967296:=by intro k a;obtain⟨e,b,rfl⟩:=AbA.1 a;exact AT8 (h e (AbS.1 b).1)
theorem Qt(l:List Edge):(Dc l).length<=l.length:=by unfold Dc;grind
noncomputable def Fa(w:OG)(n:Nat):Int:=match Ct ((nbl n w.2.1.toNat:Int),w.2.2.1,()),Ct ((n:Int),w.2.2.1,())with
 |some a,some b=>2*a.2.1*(nps w.1.toNat:Int)+(2*a.2.1+b.2.1)
 |_,_=>0
theorem AQH{f:List Nat}{w:OG}(r:NF w)(h:FO f.length w.2.2.1)(s:∀ x∈f,x<4294967296)(i:f.length<=1000):
  0<=Fa w f.length/\(Fa w f.length=0->f=[])/\(f=[]->Fa w f.length=0)/\fA (nI f,w,())=some (dR (nI (srt f w.1.toNat)),Fa w f.length,0,()):=by
 obtain⟨b,c,p,u⟩:=w;obtain⟨t,y,z,A,j⟩:=r;simp only at t y z A j;obtain⟨b,rfl⟩:=Aaw (show 0<=b by omega);obtain⟨c,rfl⟩:=Aaw (show 0<=c by omega);have B:nbl f.length c<=1000:=Abk (XV (by omega)) i;obtain⟨U,k,C,I,D,l⟩:=h (nbl f.length c) (XV (by omega));obtain⟨V,m,E,J,F,G⟩:=h _ (Aax _);have g:Fa ((b:Int),(c:Int),p,u) f.length=((2*k*nps b+(2*k+m):Nat):Int):=by unfold Fa;grind
 obtain⟨T,K⟩:=wA (p:=p) (b:=b) (c:=c) (by omega) (by omega) (by omega) (by omega) s i D F C l E G;rw[g];refine⟨by omega,fun o => ?_,fun o => ?_,?_⟩;grind;subst o;have L:k=0:=by
  have H:nbl ([]:List Nat).length c=0:=by have:=XV (n:=0) (b:=c) (by omega);grind
  rw[H]at l;have e:=Yy j;grind
 grind;obtain⟨a,d,q,v⟩:=p;rw[ez,aR];grind
theorem AJo{xs:List Int}{w:OG}(h:¬ (NF w/\xs.length<=1000)):fA (xs,w,())=some ([],0,1,()):=by
 have e:=AGn h;obtain⟨b,c,⟨a,d,q,v⟩,u⟩:=w;have g:ieq (1:Int) 0=false:=by rw[BI];rfl
 have f:ji (xs,b,c,(a,d,q,()),())=some ([],0,1,()):=e;have hd:VR (xs,(b,c,(a,d,q,()),()),())=some ([],[],0,1,()):=by rw[TE,Q_];grind
 rw[ez,aR];grind
def LU(l:List Edge)(b:Nat):List Edge:=(dR (nI (srt (Dc l) b))).map bN
theorem AA8{l:List Nat}{x:Int}:x∈nI l↔∃ k∈l,x=(k:Int):=by unfold nI;grind
theorem Qn{l:List Edge}{b:Nat}(j:∀ e∈l,GV e)(x:Edge):x∈LU l b↔0<=x.1/\x.1<x.2.1/\Lm l x.1 x.2.1:=by
 unfold LU;rw[AbA];constructor;rintro⟨k,f,rfl⟩;rw[dX,AA8]at f;obtain⟨k,f,rfl⟩:=f;rw[(O9 _ _).mem_iff]at f;obtain⟨e,c,rfl⟩:=AbA.1 f;obtain⟨c,d⟩:=AbS.1 c;have d:e.1≠e.2.1:=by grind
 rw[jF (j e c)];have g:=j e c;obtain⟨u,v,⟨⟩⟩:=e;unfold GV at g;simp only at d g |-;rcases Int.lt_or_gt_of_ne d with h|h;rw[Int.min_eq_left (by omega),Int.max_eq_right (by omega)];exact⟨by omega,h,.inl c⟩;rw[Int.min_eq_right (by omega),Int.max_eq_left (by omega)];exact⟨by omega,h,.inr c⟩
 ·rintro⟨n,o,i⟩;obtain⟨u,v,⟨⟩⟩:=x;simp only at n o i;have m:∀ e:Edge,e∈l->e.1≠e.2.1->min e.1 e.2.1=u->max e.1 e.2.1=v->∃ a∈dR (nI (srt (Dc l) b)),bN a=(u,v,()):=by intro e c d p q;refine⟨(du e:Int),?_,by rw[jF (j e c),p,q]⟩;rw[dX,AA8];refine⟨du e,(O9 _ _).mem_iff.2 (AbA.2 ⟨e,AbS.2 ⟨c,by grind⟩,rfl⟩),rfl⟩
  rcases i with i|i;all_goals grind
theorem kr{l:List Edge}{b:Nat}:(LU l b).length<=l.length:=by unfold LU dR;rw[AbN,AbN];have a:=aB (S_ (nI (srt (Dc l) b))) (nI (srt (Dc l) b)).length;have c:=(O9 (Dc l) b).length_eq;have d:=Qt l;rw[Ck]at a |-;omega
section
variable {l:List Edge} {w:OG} (hf:∀ e∈l,GV e) (hn:l.length<=1000)
include hf hn
theorem Y9(b c a d:Int)(q:List (List Int)):A' My many (b,c,a,d,q,([]:List Int),l,(l.length:Int),(0:Int),())=some (.inr (.inl (b,c,a,d,q,nI (Dc l),()))):=by
 have Q:=Gc (step:=My) (fun i=>(b,c,a,d,q,nI (Dc (l.take i)),l,(l.length:Int),(i:Int),())) l.length (.inr (.inl (b,c,a,d,q,nI (Dc l),()))) (by omega)
  (fun i hi=>by
   obtain⟨e,f⟩:=Cf hi
   have g:=hf e (Aay f)
   have j:=Qt (l.take i)
   rw[AbU]at j
   have k:Dc (l.take (i+1))=Dc (l.take i)++(if e.1=e.2.1 then []else [du e]):=by
    rw[Co f]
    unfold Dc
    grind
   rw[My,A3,Aar hi]
   simp only[BA f,AQI g,Aav,BI]
   rw[A6 (by omega),k]
   by_cases h:e.1=e.2.1
   ·grind
   ·rw[Aaq h,Aa2 h]
    simp only[AbF,A7,Ck,Aa1,Aa8]
    rw[CM (by omega)]
    simp only[ES]
    unfold nI
    simp)
  (by rw[My,A3,Aaq (by omega),AbM])
 exact Q
theorem AJ1(o:NF w)(p:FO (Dc l).length w.2.2.1):P2 (l,w,())=some (LU l w.1.toNat,Fa w (Dc l).length,0,()):=by
 have r:=Qt l;obtain⟨_,_,_,hd⟩:=AQH o p (vE hf) (by omega);obtain⟨b,c,⟨a,d,q,v⟩,u⟩:=w;have g:fA (nI (Dc l),(b,c,(a,d,q,()),()),())=some (dR (nI (srt (Dc l) b.toNat)),Fa (b,c,(a,d,q,()),()) (Dc l).length,0,()):=hd;rw[X5,VS];simp only[A7,Y9 hf hn,g];generalize m:dR (nI (srt (Dc l) b.toNat))=O;have h:∀ k∈O,∃ n:Nat,k=(n:Int)/\n<4294967296:=by intro k f;rw[<- m,dX,AA8]at f;obtain⟨n,s,t⟩:=f;exact⟨n,t,vE hf n ((O9 _ _).mem_iff.1 s)⟩
 have x:O.length<=1000:=by have:=kr (l:=l) (b:=b.toNat);unfold LU at this;grind
 have Q:=Gc (step:=Hr) (fun i=>(Fa (b,c,(a,d,q,()),()) (Dc l).length,(0:Int),(O.take i).map bN,O,(O.length:Int),(i:Int),())) O.length (.inl (Fa (b,c,(a,d,q,()),()) (Dc l).length,(0:Int),O.map bN,())) (by omega)
  (fun i hi=>by
   obtain⟨k,f⟩:=Cf hi
   obtain⟨n,rfl,j⟩:=h k (Aay f)
   rw[Hr,A3,Aar hi]
   simp only[BA f,CQ f,AJ2 j,A7,AbN,AbU,Aa1,Aa8]
   rw[CM (by omega),A6 (by omega),Co f]
   simp only[ES,Abm]
   rfl)
  (by rw[Hr,A3,Aaq (by omega),AbM])
 have Q':A' Hr many (Fa (b,c,(a,d,q,()),()) (Dc l).length,(0:Int),([]:List Edge),O,(O.length:Int),(0:Int),())=_:=Q;simp only[Q'];unfold LU;rw[m]
theorem ACT(g:¬ NF w):P2 (l,w,())=some ([],0,1,()):=by
 have hd:=AJo (xs:=nI (Dc l)) (w:=w) fun h=>g h.1;obtain⟨b,c,⟨a,d,q,v⟩,u⟩:=w;have f:fA (nI (Dc l),(b,c,(a,d,q,()),()),())=some ([],0,1,()):=hd;rw[X5,VS];simp only[A7,Y9 hf hn,f]
 have Q:=Gc (step:=Hr) (fun i=>((0:Int),(1:Int),([]:List Edge),([]:List Int),(0:Int),(i:Int),())) 0 (.inl ((0:Int),(1:Int),([]:List Edge),())) (by omega)
  (fun i hi=>absurd hi (by omega))
  (by rw[Hr,BF,Aaq (by omega)])
 grind
end
theorem nW{N:Nat}{l a:List Edge}(h:∀ u v:Int,0<=u->u<v->(Lm l u v↔Lm a u v)):Dt N l=Dt N a:=by
 unfold Dt;refine Abx (List.flatMap · (List.range N)) (funext fun u => ?_)
 unfold XI;grind
theorem AJi{l:List Edge}{b:Nat}(c:∀ e∈l,GV e){u v:Int}(d:0<=u)(h:u<v):Lm (LU l b) u v↔Lm l u v:=by unfold Lm;constructor;rintro (a|a);exact((Qn c _).1 a).2.2;have:=((Qn c _).1 a).2.1;grind;intro a;exact .inl ((Qn c (u,v,())).2 ⟨d,h,a⟩)
theorem Y6{l:List Edge}{b N:Nat}(a:∀ e∈l,GV e):Dt N (LU l b)=Dt N l:=nW fun _ _ c h=>AJi a c h
end Go.Pev.Pl
end
section

end
section

end
section
namespace Go.Pev.Pl
abbrev Ot:=Int×Int×Int×Unit
abbrev NK:=Int×List Edge×List Ot×Unit
instance (e:Edge):Decidable (GV e):=by unfold GV;exact inferInstance
def I5(n:Int):Prop:=0<=n/\n<65536
instance (n:Int):Decidable (I5 n):=by unfold I5;exact inferInstance
def GP(a:Ot):Prop:=1<=a.1/\a.1<=4/\I5 a.2.1/\I5 a.2.2.1
instance (a:Ot):Decidable (GP a):=by unfold GP;exact inferInstance
def WR(x:NK):Prop:=((x.1=1\/x.1=2)/\x.2.2.1=[]/\x.2.1.length<=60/\∀ e∈x.2.1,GV e)\/(x.1=3/\x.2.1=[]/\x.2.2.1.length<=60/\∀ a∈x.2.2.1,GP a)
instance (x:NK):Decidable (WR x):=by unfold WR;exact inferInstance
theorem jA(n:Int):bI (n,())=some (decide (I5 n),()):=by
 rw[re,mK];have e:IntKind.wrap .u16 n=n % 65536:=by simp[IntKind.wrap,IntKind.bits,IntKind.signed]
 rw[e,BM (by omega),BI];congr 2;rw[AcY];unfold I5;omega
theorem yH(n:Int):ln (n,())=some (decide (1<=n/\n<=4),()):=by rw[iw,bC,BR];by_cases h:1<=n;rw[Aar h,BR];simp[h];grind
theorem aZ{α:Type}(P:α->Prop)[DecidablePred P](l:List α):(l.any fun x => !decide (P x)) = !decide (∀ x∈l,P x):=by grind
theorem AKD(l:List Edge)(d:l.length<=60):GO (l,())=some (!decide (∀ e∈l,GV e),()):=by
 have e:=HK (step:=Fl) (fun i=>(l,(l.length:Int),(i:Int),())) l (fun e => !decide (GV e)) (fun i=>.inl ((i:Int),())) (.inr (.inl ())) (by omega)
  (fun i x hi b=>by
   rw[Fl,A3,Aar hi]
   simp only[BA b,jA]
   rw[A6 (by omega)]
   have a:GV x↔I5 x.1/\I5 x.2.1:=by unfold GV I5;omega
   grind)
  (by rw[Fl,A3,Aaq (by omega)])
 have c:A' Fl many (l,(l.length:Int),(0:Int),())=_:=e;rw[P7,Lu,R9,Nz];simp only[A7,c,aZ];by_cases h:∀ e∈l,GV e;rw[Aar h];simp only[Aav,AbB,AbE];rw[BR,Aaq (by decide)];rw[Aaq h];simp only[AbF,Abc];rw[BR,Aar (by omega)]
theorem AKE(l:List Ot)(f:l.length<=60):LX (l,())=some (!decide (∀ a∈l,GP a),()):=by
 have e:=HK (step:=Fm) (fun i=>(l,(l.length:Int),(i:Int),())) l (fun a => !decide (GP a)) (fun i=>.inl ((i:Int),())) (.inr (.inl ())) (by omega)
  (fun i x hi c=>by
   rw[Fm,A3,Aar hi]
   simp only[BA c,yH,jA]
   rw[A6 (by omega)]
   have b:GP x↔(1<=x.1/\x.1<=4)/\I5 x.2.1/\I5 x.2.2.1:=by unfold GP;grind
   grind)
  (by rw[Fm,A3,Aaq (by omega)])
 have d:A' Fm many (l,(l.length:Int),(0:Int),())=_:=e;rw[P8,Lv,SA,N1];simp only[A7,d,aZ];by_cases h:∀ a∈l,GP a;rw[Aar h];simp only[Aav,AbB,AbE];rw[BR,Aaq (by decide)];rw[Aaq h];simp only[AbF,Abc];rw[BR,Aar (by omega)]
theorem AT5{α:Type}(l:List α):ieq (l.length:Int) 0=decide (l=[]):=by rw[BI,AcY];simp
theorem SM(x:NK):lj (x,())=some (decide (WR x),()):=by
 obtain⟨k,c,b,⟨⟩⟩:=x;rw[iq,az];simp only[A7,AT5];simp only[BI];have d:∀ {α:Type} (l:List α),ile (l.length:Int) 60=decide (l.length<=60):=fun l=>by rw[BR,AcY];omega
 have g:k=1\/k=2->(WR (k,c,b,())↔b=[]/\c.length<=60/\∀ e∈c,GV e):=by intro m;unfold WR;grind
 have h:k=1\/k=2->(match decide (b=[])with
   |true=>match ile (c.length:Int) 60 with
    |true=>match GO (c,())with
     |none=>none
     |some (y0,_)=>some ((!y0),())
    |false=>some (false,())
   |false=>some (false,()))=some (decide (WR (k,c,b,())),()):=by
  intro m
  by_cases i:b=[]
  ·rw[Aar i]
   simp only[d]
   by_cases f:c.length<=60
   ·rw[Aar f]
    simp only[AKD c f,Bool.not_not]
    grind
   grind
  grind
 by_cases n:k=1;grind;rw[Aaq n];by_cases o:k=2;grind;rw[Aaq o];by_cases p:k=3;rw[Aar p];have j:WR (k,c,b,())↔c=[]/\b.length<=60/\∀ a∈b,GP a:=by unfold WR;grind
 by_cases i:c=[]
 rw[Aar i];simp only[d];by_cases f:b.length<=60;rw[Aar f];simp only[AKE b f,Bool.not_not];grind;grind;grind;have q:¬ WR (k,c,b,()):=by unfold WR;omega
 grind
def Nq(a:Ot):List Int:=if a.1=1 then [a.2.1,a.2.2.1]else if a.1=2\/a.1=3 then [a.2.1]else []
def Et(x:NK):List Int:=(x.2.1.flatMap fun e=>[e.1,e.2.1])++x.2.2.1.flatMap Nq
theorem Qq(a:Ot):(Nq a).length<=2:=by unfold Nq;grind
theorem AC0(a:Ot):qZ ((a.1,(a.2.1,(a.2.2.1,()))),())=some (Nq a,()):=by rw[lO,fh];simp only[BI];unfold Nq;grind
theorem J2{α:Type}(f:α->List Int)(b:∀ a,(f a).length<=2):∀ (l:List α),(l.flatMap f).length<=2*l.length:=by
 intro l;induction l with
  |nil=>simp
  |cons a l c=>grind
theorem lK{x:NK}(h:x.2.1.length<=1000000)(j:x.2.2.1.length<=1000000):AFH (x,())=some (Et x,()):=by
 obtain⟨k,c,b,⟨⟩⟩:=x;simp only at h j;rw[w8,qU];have d:∀ i,((c.take i).flatMap fun e=>[e.1,e.2.1]).length<=2000000:=fun i=>by have:=J2 (fun e:Edge=>[e.1,e.2.1]) (fun _=>by simp) (c.take i);grind
 have Q:=Gc (step:=QH) (fun i=>(k,c,b,((c.take i).flatMap fun e=>[e.1,e.2.1]),c,(c.length:Int),(i:Int),())) c.length (.inl (k,c,b,(c.flatMap fun e=>[e.1,e.2.1]),())) (by omega)
  (fun i hi=>by
   obtain⟨e,f⟩:=Cf hi
   have:=d i
   rw[QH,A3,Aar hi]
   simp only[BA f,A7,Aa1,Aa8]
   rw[CM (by omega),A6 (by omega),Co f,Abp]
   simp only[ES]
   rfl)
  (by rw[QH,A3,Aaq (by omega),AbM])
 have Q':A' QH many (k,c,b,([]:List Int),c,(c.length:Int),(0:Int),())=_:=Q;simp only[A7,Q']
 have R:=Gc (step:=Vy) (fun i=>((c.flatMap fun e=>[e.1,e.2.1])++(b.take i).flatMap Nq,b,(b.length:Int),(i:Int),())) b.length (.inl (Et (k,c,b,()),())) (by omega)
  (fun i hi=>by
   obtain⟨a,g⟩:=Cf hi
   have l:=d c.length
   rw[AbM]at l
   have m:=J2 Nq Qq (b.take i)
   rw[AbU]at m
   have n:=Qq a
   rw[Vy,A3,Aar hi]
   simp only[BA g,AC0,A7,Aa3]
   rw[CM (by omega),A6 (by omega),Co g,Abp]
   simp only[ES,AcC]
   simp)
  (by rw[Vy,A3,Aaq (by omega),AbM];rfl)
 grind
theorem k8(n:Int)(ts:List Tie)(l:List Int)(c:l.length<=1000000):LW (l,n,ts,())=some (n,ts,(l.any fun v=>decide (n<=v)),()):=by
 have e:=HK (step:=Fk) (fun i=>(n,ts,l,(l.length:Int),(i:Int),())) l (fun v=>decide (n<=v)) (fun i=>.inl (n,ts,(i:Int),())) (.inr (.inl (n,ts,()))) (by omega)
  (fun i x hi a=>by
   rw[Fk,A3,Aar hi]
   simp only[BA a,BR]
   rw[A6 (by omega)]
   grind)
  (by rw[Fk,A3,Aaq (by omega)])
 have b:A' Fk many (n,ts,l,(l.length:Int),(0:Int),())=_:=e;rw[P6,Lt,R8,Ny];simp only[A7,b];cases h:(l.any fun v=>decide (n<=v))with
  |true=>simp only[Abc];rw[BR,Aar (by omega)]
  |false=>simp only[AbB,AbE];rw[BR,Aaq (by decide)]
instance (w:OG):Decidable (NF w):=by unfold NF;exact inferInstance
abbrev AZY:=Int×List Edge×List Ot×Int×Int×Unit
def AGx(e:Int):AZY:=(0,[],[],0,e,())
def GR(n:Int)(ts:List Tie):Prop:=∃ N:Nat,n=(N:Int)/\RG2 N ts
theorem AMz(n:Int)(ts:List Tie)(i:ts.length<4611686018427387904):∃ b:Bool,Fs ((n,(ts,())),())=some (b,())/\D3 ((n,(ts,())),())=some (b,())/\(b=true↔GR n ts):=by obtain⟨b,a,j,k⟩:=fZ n ts i;refine⟨b,a,j,fun c => ?_,?_⟩;obtain⟨N,rfl,d,e,f,g⟩:=k c;subst c;exact⟨N,rfl,⟨d,e,f,g,(sk d e f g).1 a⟩⟩;rintro⟨N,rfl,h⟩;have:=h.r21;grind
section
variable {n:Int} {ts:List Tie} {x:NK} {w:OG}
theorem AKM(d:ts.length<4611686018427387904)(h:¬ (GR n ts/\WR x)):I7 ((n,(ts,())),x,w,())=some (AGx 1):=by
 obtain⟨b,_,e,f⟩:=AMz n ts d;obtain⟨k,g,a,⟨⟩⟩:=x;rw[RH,QI];simp only[e];cases b with
  |false=>rfl
  |true=>have c:¬ WR (k,g,a,()):=fun c=>h ⟨f.1 rfl,c⟩;simp only[Aav,SM,Aaq c];rfl
theorem bB(h:WR x):x.2.1.length<=60/\x.2.2.1.length<=60/\(∀ e∈x.2.1,GV e):=by
 obtain⟨k,d,a,⟨⟩⟩:=x;rcases h with⟨_,b,c,f⟩|⟨_,b,c,_⟩
 all_goals grind
variable {N:Nat} (h:RG2 N ts) (hw:WR x)
include h hw
theorem ACk(g:∃ v∈Et x,(N:Int)<=v):I7 (((N:Int),(ts,())),x,w,())=some (AGx 10):=by
 obtain⟨i,j,_⟩:=bB hw;have c:=lK (x:=x) (by omega) (by omega);have b:(Et x).length<=1000000:=by unfold Et;rw[Aa3];have:=J2 (fun e:Edge=>[e.1,e.2.1]) (fun _=>by simp) x.2.1;have:=J2 Nq Qq x.2.2.1;omega
 have a:((Et x).any fun v=>decide ((N:Int)<=v))=true:=by grind
 have d:=k8 (N:Int) ts (Et x) b;obtain⟨k,l,f,⟨⟩⟩:=x;rw[RH,QI];simp only[h.lr,Aav,SM,Aar hw,c,d,a];rfl
variable (hv:∀ v∈Et x,v<(N:Int))
include hv
omit h hw in
theorem AQb:((Et x).any fun v=>decide ((N:Int)<=v))=false:=by grind
theorem wU(Q:x.1=1\/x.1=2)(D:NF w->FO x.2.1.length w.2.2.1):I7 (((N:Int),(ts,())),x,w,()) =
  if NF w then
   if x.1=2 then some (2,Of N ts x.2.1,[],Fa w (Dc x.2.1).length,0,())
   else if 400-ts.length<(B4 N ts x.2.1).length then some (AGx 2)else some (1,B4 N ts x.2.1,[],Fa w (Dc x.2.1).length,0,())
  else some (AGx 1):=by
 obtain⟨R,S,f⟩:=bB hw;have E:=lK (x:=x) (by omega) (by omega);have s:(Et x).length<=1000000:=by unfold Et;rw[Aa3];have:=J2 (fun e:Edge=>[e.1,e.2.1]) (fun _=>by simp) x.2.1;have:=J2 Nq Qq x.2.2.1;omega
 have o:=AQb hv;have F:=k8 (N:Int) ts (Et x) s;have G:=kr (l:=x.2.1) (b:=w.1.toNat);have p:∀ e∈LU x.2.1 w.1.toNat,In (N:Int) e.1/\In (N:Int) e.2.1:=by
  intro e H;obtain⟨T,U,t⟩:=(Qn f e).1 H;have I:e.2.1<(N:Int):=by refine hv _ ?_;unfold Et;refine Aa7.2 (.inl (Ab4.2 ?_));rcases t with t|t;all_goals grind
  have V:=h.hN;have W:=h.h1;unfold In;omega
 have u:Of N ts (LU x.2.1 w.1.toNat)=Of N ts x.2.1:=by unfold Of;rw[Y6 f]
 have y:B4 N ts (LU x.2.1 w.1.toNat)=B4 N ts x.2.1:=by unfold B4;rw[Y6 f]
 have j:=AHJ h (LU x.2.1 w.1.toNat) (by omega);rw[Aa5 p,u]at j;have g:=eN h.h1 h.hN ts h.ht (LU x.2.1 w.1.toNat) (by omega) h.lr;rw[Aa5 p,y]at g;have r:=SM x;rw[Aar hw]at r;have z:=fun i=>AJ1 (w:=w) f (by omega) i ((D i).mono (Qt x.2.1));have A:=fun i=>ACT (w:=w) f (by omega) i;have B:ieq x.1 3=false:=by rw[BI];grind
 have X:=h.ht;have m:AFJ (((N:Int),(ts,())),())=some (((400-ts.length:Nat):Int),()):=by rw[xB,qX];simp only[h.lr,Aav,A7];rw[BM (by omega),show(400:Int)-(ts.length:Int)=((400-ts.length:Nat):Int) by omega]
 have J:ieq (0:Int) 0=true:=by rw[BI];rfl
 have K:ieq (1:Int) 0=false:=by rw[BI];rfl
 obtain⟨k,L,M,⟨⟩⟩:=x;obtain⟨b,c,⟨a,d,q,⟨⟩⟩,⟨⟩⟩:=w;rw[RH,QI];simp only[h.lr,Aav,r,E,F,o,B];by_cases i:NF (b,c,(a,d,q,()),());rw[Aa5 i];simp only[z i,J,Aav];by_cases O:k=2;subst O;rw[Aa5 rfl,BI,Aar rfl];grind;have P:k=1:=by omega
 subst P;rw[Aa2 (by decide),BI,Aaq (by decide)];simp only[g,m,A7,A3];by_cases C:400-ts.length<(B4 N ts L).length;rw[Aa5 C,Aar C];rfl;grind;rw[Aa2 i];simp only[A i,K,AbF];rfl
theorem wV(a:x.1=1\/x.1=2):I7 (((N:Int),(ts,())),x,w,()) =
  if NF w then
   if x.1=2 then some (2,Of N ts x.2.1,[],Fa w (Dc x.2.1).length,0,())
   else if 400-ts.length<(B4 N ts x.2.1).length then some (AGx 2)else some (1,B4 N ts x.2.1,[],Fa w (Dc x.2.1).length,0,())
  else some (AGx 1):=wU h hw hv a fun b=>(APw b.2.2.2.2).mono (by have:=(bB hw).1;omega)
end
theorem ABi{l:List Edge}{u v:Int}(h:Lm l u v)(a:u<v):∃ e∈l,(min e.1 e.2.1,max e.1 e.2.1,())=((u,v,()):Edge):=by rcases h with h|h;all_goals grind
theorem ya{α:Type}[DecidableEq α]:∀ {l m:List α},l.Nodup->(∀ x∈l,x∈m)->l.length<=m.length:=by
 intro l;induction l with
  |nil=>simp
  |cons a l c=>
   intro m b d;rw[Abj]at b;have e:=d a (by simp);have:=c (m:=m.erase a) b.2 fun x f=>by grind
   grind
theorem AA2{xs:List Edge}(h:xs.Pairwise DY):xs.Nodup:=h.imp fun {a b} c=>by rintro rfl;unfold DY at c;omega
theorem AG6(N:Nat)(l:List Edge):(Dt N l).length<=l.length:=by
 have:=ya (AA2 (PN N l)) (m:=l.map fun e=>((min e.1 e.2.1,max e.1 e.2.1,()):Edge)) fun x a=>by obtain⟨f,b,g,c⟩:=(Hg N l x).1 a;obtain⟨e,h,d⟩:=ABi c b;grind
 grind
theorem AVW(N:Nat)(ts:List Tie)(l:List Edge):(B4 N ts l).length+(Of N ts l).length<=l.length:=by have h:=(List.filter_append_perm (fun x=>decide (x∈ts.map ed)) (Dt N l)).length_eq;rw[Aa3]at h;have:=AG6 N l;unfold B4 Of;omega
theorem AP4{xs ys:List Edge}(c:xs.Pairwise DY)(d:ys.Pairwise DY)(h:∀ x,x∈xs↔x∈ys):xs=ys:=
 Aco (le:=DY) (fun a b _ _ e f=>by unfold DY at e f;omega) c d ((Acw (AA2 c) (AA2 d)).2 h)
theorem vQ{l:List Edge}(h:∀ e∈l,e.1<e.2.1){u v:Int}(a:u<v):Lm l u v↔((u,(v,())):Edge)∈l:=by
 constructor;·rintro (b|b);all_goals grind
 exact .inl
theorem tE{N:Nat}{l L:List Edge}(c:∀ x∈L,x∈Dt N l)(x:Edge):x∈Dt N L↔x∈L:=by have a:∀ e∈L,e.1<e.2.1:=fun e d=>((Hg N l e).1 (c e d)).2.1;rw[Hg];constructor;rintro⟨_,b,_,f⟩;exact(vQ a b).1 f;intro h;obtain⟨g,b,i,_⟩:=(Hg N l x).1 (c x h);exact⟨g,b,i,(vQ a b).2 h⟩
theorem fM(N:Nat)(ts:List Tie)(l:List Edge):B4 N ts (B4 N ts l)=B4 N ts l:=by refine AP4 (OC ..) (OC ..) fun x => ?_;have a:∀ x∈B4 N ts l,x∈Dt N l:=fun x b=>(AbS.1 b).1;rw[show B4 N ts (B4 N ts l)=(Dt N (B4 N ts l)).filter (fun x => !decide (x∈ts.map ed))from rfl,AbS,tE (l:=l) (L:=B4 N ts l) a];constructor;grind;exact fun h=>⟨h,(AbS.1 h).2⟩
theorem YY(n:Int):Na (n,())=some (decide (I5 n),()):=by
 rw[cE,XA,BR];by_cases h:0<=n;have:decide (n<=65535)=decide (I5 n):=by rw[AcY];unfold I5;omega
 rw[Aar h,BR];simp only[this];have:decide (I5 n)=false:=Aaq (by unfold I5;omega);rw[Aaq h,this]
theorem PL(k:Int)(c:List Edge)(b:List Ot)(l:c.length<=60):A' EI many (k,c,b,(0:Int),())=some (if ∀ e∈c,GV e then .inr (.inl (k,c,b,()))else .inl (false,())):=by
 have e:=HK (step:=EI) (fun i=>(k,c,b,(i:Int),())) c (fun e => !decide (GV e)) (fun _=>.inl (false,())) (.inr (.inl (k,c,b,()))) (by omega)
  (fun i x hi g=>by
   rw[EI,A7,A3,Aar hi]
   simp only[BA g,YY]
   rw[A6 (by omega)]
   have a:GV x↔I5 x.1/\I5 x.2.1:=by unfold GV I5;omega
   by_cases d:I5 x.1
   ·by_cases f:I5 x.2.1
    ·simp only[Aar d,Aar f,Aar (a.2 ⟨d,f⟩)];rfl
    ·simp only[Aar d,Aaq f,Aaq (show ¬ GV x from fun h=>f (a.1 h).2)];rfl
   ·simp only[Aaq d,Aaq (show ¬ GV x from fun h=>d (a.1 h).1)];rfl)
  (by rw[EI,A7,A3,Aaq (by omega)])
 have j:A' EI many (k,c,b,(0:Int),())=_:=e;rw[j,aZ];by_cases h:∀ e∈c,GV e;rw[Aar h,Aa5 h];rfl;rw[Aaq h,Aa2 h];rfl
theorem PK(k:Int)(o:List Edge)(g:List Ot)(r:g.length<=60):A' EH many (k,o,g,(0:Int),())=some (if ∀ a∈g,GP a then .inr (.inl ())else .inl (false,())):=by
 have e:=HK (step:=EH) (fun i=>(k,o,g,(i:Int),())) g (fun a => !decide (GP a)) (fun _=>.inl (false,())) (.inr (.inl ())) (by omega)
  (fun i x hi p=>by
   rw[EH,A7,A3,Aar hi]
   simp only[BA p,YY,BF]
   rw[A6 (by omega)]
   have f:GP x↔I5 x.2.1/\I5 x.2.2.1/\¬ x.1<1/\¬ 4<x.1:=by
    unfold GP
    constructor
    ·rintro⟨a,b,c,d⟩;exact⟨c,d,by omega,by omega⟩
    ·rintro⟨a,b,c,d⟩;exact⟨by omega,by omega,a,b⟩
   by_cases j:I5 x.2.1
   ·by_cases l:I5 x.2.2.1
    ·by_cases m:x.1<1
     ·simp only[Aar j,Aar l,Aar m,Aaq (show ¬ GP x from fun h=>(f.1 h).2.2.1 m)];rfl
     ·by_cases n:4<x.1
      ·simp only[Aar j,Aar l,Aaq m,Aar n,Aaq (show ¬ GP x from fun h=>(f.1 h).2.2.2 n)];rfl
      ·simp only[Aar j,Aar l,Aaq m,Aaq n,Aar (f.2 ⟨j,l,m,n⟩)];rfl
    ·simp only[Aar j,Aaq l,Aaq (show ¬ GP x from fun h=>l (f.1 h).2.1)];rfl
   ·simp only[Aaq j,Aaq (show ¬ GP x from fun h=>j (f.1 h).1)];rfl)
  (by rw[EH,A7,A3,Aaq (by omega)])
 have q:A' EH many (k,o,g,(0:Int),())=_:=e;rw[q,aZ];by_cases h:∀ a∈g,GP a;rw[Aar h,Aa5 h];rfl;rw[Aaq h,Aa2 h];rfl
theorem sr(x:NK):Zx (x,())=some (decide (WR x),()):=by
 obtain⟨k,g,b,⟨⟩⟩:=x;have n:∀ {α:Type} (l:List α),ilt (60:Int) (l.length:Int) = !decide (l.length<=60):=fun l=>by rw[BF,AcH];simp;omega
 have o:∀ {α:Type} (l:List α),ilt (0:Int) (l.length:Int) = !decide (l=[]):=fun l=>by rw[BF,AcH];cases l<;>simp
 rw[cd,XK];simp only[A7,n,o,BF,BI];have c:∀ (r:Bool),(WR (k,g,b,())↔r=true)->some (r,())=some (decide (WR (k,g,b,())),()):=fun r h=>by congr 2;rw[AcH,Aat];exact h.symm
 by_cases q:k<1;rw[Aar q];exact c false ⟨fun h=>by unfold WR at h;simp only at h;omega,fun h=>by cases h⟩;rw[Aaq q];by_cases s:3<k;rw[Aar s];exact c false ⟨fun h=>by unfold WR at h;simp only at h;omega,fun h=>by cases h⟩;rw[Aaq s];by_cases p:k=3;rw[Aar p];have f:WR (k,g,b,())↔g=[]/\b.length<=60/\∀ a∈b,GP a:=by unfold WR;simp only;constructor;rintro (h|h);omega;exact h.2;exact fun h=>.inr ⟨p,h⟩
 by_cases m:g=[]
 subst m;simp only[Aa6,Aav,Aa8];by_cases i:b.length<=60;simp only[Aar i,Aav,show decide ((0:Nat)<=60)=true from rfl,PL k [] b (by simp)];rw[Aa5 (by simp)];simp only[PK k [] b i];by_cases j:∀ a∈b,GP a;rw[Aa5 j];exact c true ⟨fun _=>rfl,fun _=>f.2 ⟨rfl,i,j⟩⟩;rw[Aa2 j];exact c false ⟨fun h=>absurd (f.1 h).2.2 j,fun h=>by cases h⟩;simp only[Aaq i,AbF,show decide ((0:Nat)<=60)=true from rfl,Aav];exact c false ⟨fun h=>absurd (f.1 h).2.1 i,fun h=>by cases h⟩;simp only[Aaq m,AbF];exact c false ⟨fun h=>absurd (f.1 h).1 m,fun h=>by cases h⟩;rw[Aaq p];have d:WR (k,g,b,())↔b=[]/\g.length<=60/\∀ e∈g,GV e:=by unfold WR;simp only;constructor;rintro (h|h);exact h.2;omega;exact fun h=>.inl ⟨by omega,h⟩
 by_cases m:b=[]
 subst m;simp only[Aa6,Aav,AbF,Aa8];by_cases i:g.length<=60;simp only[Aar i,Aav,show decide ((0:Nat)<=60)=true from rfl,PL k g [] i];by_cases j:∀ e∈g,GV e;rw[Aa5 j];simp only[PK k g [] (by simp)];rw[Aa5 (by simp)];exact c true ⟨fun _=>rfl,fun _=>d.2 ⟨rfl,i,j⟩⟩;rw[Aa2 j];exact c false ⟨fun h=>absurd (d.1 h).2.2 j,fun h=>by cases h⟩;simp only[Aaq i,AbF];exact c false ⟨fun h=>absurd (d.1 h).2.1 i,fun h=>by cases h⟩;simp only[Aaq m,AbF];exact c false ⟨fun h=>absurd (d.1 h).1 m,fun h=>by cases h⟩
def HJ(N u:Nat):List Tie:=(List.range' (u+1) (N-(u+1))).map fun v:Nat=>((u:Int),(v:Int),(0:Int),decide (u=0),())
def Er(N u:Nat):List Tie:=(List.range u).flatMap (HJ N)
theorem ABq(N u:Nat):Er N (u+1)=Er N u++HJ N u:=by unfold Er;rw[AbJ,Abp];simp
theorem AB2{N m u:Nat}(f:N<=64)(g:m<=400)(j:u<N)(a:List Tie)(k:a.length<=m):
  A' Ig many ((N:Int),(m:Int),(0:Int),(N:Int),a,(u:Int),((u+1:Nat):Int),())=some (.inl ((N:Int),(m:Int),(0:Int),(N:Int),a++(HJ N u).take (m-a.length),(u:Int),())):=by
 have b:(HJ N u).length=N-(u+1):=by simp[HJ]
 have c:∀ i,i<N-(u+1)->(HJ N u)[i]? = some ((u:Int),((u+1+i:Nat):Int),(0:Int),decide (u=0),()):=fun i hi=>by unfold HJ;rw[AdI,List.getElem?_range' hi];simp
 have Q:=Gc (step:=Ig) (fun i=>((N:Int),(m:Int),(0:Int),(N:Int),a++(HJ N u).take i,(u:Int),((u+1+i:Nat):Int),())) (min (N-(u+1)) (m-a.length)) (.inl ((N:Int),(m:Int),(0:Int),(N:Int),a++(HJ N u).take (m-a.length),(u:Int),())) (by omega)
  (fun i hi=>by
   rw[Ig,A3,Aar (by omega),A7,Aa3,AbU,b,A3,Aar (by omega)]
   simp only[A7,Aa1,Aa8]
   rw[CM (by omega),A6 (by omega)]
   simp only[ES]
   rw[Co (c i (by omega)),ieq_nat' u,AcC]
   rfl)
  (by
   rw[Ig,A3]
   by_cases e:u+1+min (N-(u+1)) (m-a.length)<N
   ·have d:min (N-(u+1)) (m-a.length)=m-a.length:=by omega
    rw[Aar e,d,A7,Aa3,AbU,b,A3,Aaq (by omega)]
   ·rw[Aaq e]
    have:(HJ N u).take (min (N-(u+1)) (m-a.length))=(HJ N u).take (m-a.length):=by
     rcases Nat.le_total (N-(u+1)) (m-a.length)with h|h
     ·rw[AcG h,Abs (by omega),Abs (by omega)]
     ·rw[Adu h]
    rw[this])
 simp only[List.take_zero,Abd,AcD]at Q;exact Q
where ieq_nat' (u:Nat):ieq (u:Int) (0:Int)=decide (u=0):=by rw[BI,AcY];omega
theorem AB1{N m:Nat}(b:N<=64)(c:m<=400):VG ((N:Int),(m:Int),())=some ((N:Int),(Er N N).take m,()):=by
 rw[Y2,TA]
 have Q:=Gc (step:=Ih) (fun u=>((N:Int),(m:Int),(0:Int),(N:Int),(Er N u).take m,(u:Int),())) N (.inl ((0:Int),(N:Int),(Er N N).take m,())) (by omega)
  (fun u a=>by
   have d:((Er N u).take m).length<=m:=by rw[AbU];omega
   have e:=AB2 b c a ((Er N u).take m) d
   rw[Ih,A3,Aar a,A6 (by omega)]
   simp only[e]
   rw[A6 (by omega),ABq,AdN,AbU]
   have:m-min m (Er N u).length=m-(Er N u).length:=by omega
   rw[this])
  (by rw[Ih,A3,Aaq (by omega)])
 have z:(Er N 0).take m=[]:=by simp[Er]
 rw[z]at Q;have Q':A' Ih many ((N:Int),(m:Int),(0:Int),(N:Int),([]:List Tie),(0:Int),())=_:=Q;simp only[Q']
def Tn(k:Nat):List Edge:=(List.range k).map fun i=>((0:Int),((i+1:Nat):Int),())
theorem AR5{N k:Nat}(h:k+1<=N):∀ e∈Tn k,InE N e:=by intro e a;obtain⟨i,hi,rfl⟩:=AbA.1 a;have:=AbI.1 hi;unfold InE;simp only;omega
theorem AR6{N:Nat}:∀ k,k+1<=N->Fo N (Tn k):=by
 intro k;induction k with
  |zero=>intro _;unfold Fo;show cc N []+0=N;rw[AQj,AcD]
  |succ k a=>
   intro h;have g:=a (by omega);have e:Tn (k+1)=Tn k++[((0:Int),((k+1:Nat):Int),())]:=by unfold Tn;rw[AbJ,Abm];rfl
   unfold Fo at *;have b:=AFE (N:=N) (l:=Tn k) (e:=((0:Int),((k+1:Nat):Int),())) (by unfold InE;simp only;omega);have d:fL (Tn k) 0 ((k+1:Nat):Int)=false:=by
    rw[ACg];intro c;rcases c.within (I:=fun z=>z<=(k:Int)) (fun e f=>by obtain⟨i,hi,rfl⟩:=AbA.1 f;have:=AbI.1 hi;simp only;omega)with h1|h1
    omega;have:=h1.2;omega
   simp only[d,AbB,AbE]at b;rw[e,Aa3];simp only[Aa1,Aa8];omega
theorem AIJ{N u:Nat}{t:Tie}(h:t∈Er N u):∃ a b:Nat,a<u/\a<b/\b<N/\t=((a:Int),(b:Int),(0:Int),decide (a=0),()):=by obtain⟨a,c,d⟩:=Ab4.1 h;obtain⟨b,e,rfl⟩:=AbA.1 d;rw[Adj]at e;exact⟨a,b,AbI.1 c,by omega,by omega,rfl⟩
theorem ABr(N:Nat):∀ u,((Er N u).map ed).Pairwise DY:=by intro u;unfold Er;rw[List.map_flatMap,List.pairwise_flatMap];constructor;intro a _;unfold HJ;rw[List.map_map,AcA];have c:(List.range' (a+1) (N-(a+1))).Pairwise (fun x y=>x<y):=List.pairwise_lt_range';refine c.imp fun {x y} h => ?_;show(a:Int)<(a:Int)\/(a:Int)=(a:Int)/\(x:Int)<(y:Int);omega;refine List.pairwise_lt_range.imp fun {a b} h x d y e => ?_;obtain⟨t,f,rfl⟩:=AbA.1 d;obtain⟨s,g,rfl⟩:=AbA.1 e;obtain⟨_,_,rfl⟩:=AbA.1 f;obtain⟨_,_,rfl⟩:=AbA.1 g;unfold DY ed;simp only;omega
theorem ALS{N:Nat}(j:1<=N):trk (Er N N) 0=Tn (N-1):=by
 obtain⟨k,rfl⟩:∃ k,N=k+1:=⟨N-1,by omega⟩
 have e:Er (k+1) (k+1)=HJ (k+1) 0++(List.range' 1 k).flatMap (HJ (k+1)):=by unfold Er;rw[AcL,AcW,Abr]
 unfold trk;rw[e,AcX,Abm];have d:((List.range' 1 k).flatMap (HJ (k+1))).filter (fun t=>t.2.2.2.1&&decide ((0:Int)<=t.2.2.1))=[]:=by rw[Ado];intro t c;obtain⟨a,f,c⟩:=Ab4.1 c;obtain⟨b,g,rfl⟩:=AbA.1 c;rw[Adj]at f;simp;omega
 have h:(HJ (k+1) 0).filter (fun t=>t.2.2.2.1&&decide ((0:Int)<=t.2.2.1))=HJ (k+1) 0:=by rw[AcO];intro t c;obtain⟨b,g,rfl⟩:=AbA.1 c;simp
 rw[d,h,AcE,Abd];unfold HJ Tn;rw[List.map_map,Adf];rw[AcL,show List.range' (0+1) k=(List.range' 0 k).map (1 + ·) by rw[List.map_add_range'],List.map_map]
 refine AcN fun i _ => ?_;simp only[Function.comp,ed,Aa4,AdG];omega
theorem APk{N m:Nat}(f:1<=N)(i:N<=64)(n:m<=400):RG2 N ((Er N N).take m):=by
 have c:∀ x∈(Er N N).take m,∃ a b:Nat,a<N/\a<b/\b<N/\x=((a:Int),(b:Int),(0:Int),decide (a=0),()):=fun x d=>AIJ (List.mem_of_mem_take d);refine AXt f i (by rw[AbU];omega) ?_ (fun e j => ?_) (fun x d => ?_) (fun x d => ?_) ?_;rw[List.map_take];exact(ABr N N).sublist (List.take_sublist _ _);obtain⟨x,d,rfl⟩:=AbA.1 j;obtain⟨a,b,_,g,_,rfl⟩:=c x d;unfold ed;simp only;omega;obtain⟨a,b,_,g,_,rfl⟩:=c x d;unfold InE ed;simp only;omega;obtain⟨a,b,_,g,_,rfl⟩:=c x d;simp only;omega;have h:(trk ((Er N N).take m) 0).Sublist (trk (Er N N) 0):=by unfold trk;exact(((List.take_sublist m (Er N N)).filter _).map _)
 have l:=AR6 (N:=N) (N-1) (by omega);have hi:=AR5 (N:=N) (k:=N-1) (by omega);rw[ALS f]at h;exact l.sub h hi
end Go.Pev.Pl
end
section

end
section

end
section

end
section

end
section

end
section

end
section

end
section

end
section

end
section

end
section

end
section

end
section

end
section

end
section
namespace Go.Pev.Pl
open Tok
theorem ABz{n:Int}{a:List (List Int)}(h:FR n a){i:Nat}{A:List Int}{v:Int}(c:In n v)(hi:a[i]? = some A)(e:v∈A):Xt ((n,(a,())),v,())=some (hd A,0,()):=by
 have d:=h.dom;have b:=YI.2 h;have j:=h.rg A (Aay hi);have f:S9 ((n,(a,())),[v],())=some (0,()):=by rw[eQ n a _ d (by simp),AVi];grind
 have g:idx A (0:Int)=some (hd A):=by
  cases A with
   |nil=>grind
   |cons x A=>rw[Ke];rfl
 rw[kj,eW];simp only[f,C',Aav,ARm n a v d,b,c,and_self,Abc,h.zg hi c.2.2.2 e,BA hi,g]
theorem kl{n:Int}{a:List (List Int)}{l:List Edge}{out:List Int}(h:FC n a l)(d:gN n l out){v:Int}(b:In n v):Xt ((n,(a,())),v,())=some (cl out v,0,()):=by obtain⟨i,A,_,hi,c,_⟩:=XO (h.fr.cov v b);rw[ABz h.fr b hi c,eJ h d (Aay hi) b c]
theorem gY{N:Nat}(s:1<=N)(t:N<=64){b:List (List Int)}{base:List Edge}{out:List Int}(h:FC (N:Int) b base)(d:gN (N:Int) base out)(l:List Edge)(k:l.length<1073741824)(f:∀ e∈l,In (N:Int) e.1/\In (N:Int) e.2.1):
  Qc (((N:Int),(b,())),l,())=some (l.map fun e=>(cl out e.1,cl out e.2.1,()),0,()):=by
 have g:=h.fr.dom;have m:=YI.2 h.fr;have n:KI (((N:Int),(b,())),())=some (true,()):=by rw[NU _ _ g.1 g.2];grind
 rw[Tt,PA];simp only[n,Aav,zC (N:Int) l ⟨by omega,by omega⟩ k f,C']
 have e:=EC (step:=Gb) (fun i (a:List Edge)=>((N:Int),b,a,l,A2 l,(i:Int),())) l (fun x a=>.inl (a++[(cl out x.1,cl out x.2.1,())])) (fun a=>.inl (a,())) (fun i a=>a.length<=i) (by omega)
  (fun i x a hi j u=>by
   refine⟨fun v c => ?_,fun r c=>(by cases c)⟩
   cases c
   obtain⟨o,p⟩:=f x (Aay j)
   constructor
   ·rw[Gb,A7,A3,Aar hi]
    simp only[BA j,kl h d o,kl h d p]
    rw[CM (by simp only[A7,Aa1,Aa8];omega),A6 (by omega)]
    rfl
   grind)
  (fun a _=>by rw[Gb,A7,A3,Aaq (by omega)]) [] (Aax _)
 have q:A' Gb many ((N:Int),b,[],l,A2 l,(0:Int),())=_:=e;simp only[q];rw[CV (fun(x:Edge) (a:List Edge)=>a++[(cl out x.1,cl out x.2.1,())]),kg (fun x:Edge=>(cl out x.1,cl out x.2.1,()))];rfl
theorem sV{N:Nat}(n:1<=N)(m:N<=64){c:List (List Int)}{base:List Edge}(h:FC (N:Int) c base)(l:List Edge)(v:base.length+l.length<1073741824)(q:∀ e∈base,In (N:Int) e.1/\In (N:Int) e.2.1)(f:∀ e∈l,In (N:Int) e.1/\In (N:Int) e.2.1):
  Zu (((N:Int),(c,())),l,())=some (gfl base l,0,()):=by
 obtain⟨out,_,g⟩:=IF (N:Int) base ⟨by omega,by omega⟩ (by omega) q;have d:∀ a:Int,(0<=a/\a<(N:Int))->In (N:Int) a:=fun a h=>vK n m h;obtain⟨s,w⟩:=pQ n m (l.map fun e=>(cl out e.1,cl out e.2.1,())) (by grind) (fun e i=>by obtain⟨x,j,rfl⟩:=AbA.1 i;exact⟨g.isin _ (f x j).1,g.isin _ (f x j).2⟩)
 have r:mo ((List.range N).map (fun(k:Nat)=>(k:Int)),l.map fun e=>(cl out e.1,cl out e.2.1,()),())=some (s,gfl [] (l.map fun e=>(cl out e.1,cl out e.2.1,())),()):=by rw[jX,cA];grind
 rw[cI,XB];simp only[gY n m h g l (by omega) f,C',Aav,zE N m,r];rw[<- AU0 (fun e=>(cl out e.1,cl out e.2.1,())) l base [] (fun p x s e=>by
  have t:∀ y∈p,y∈l:=fun y z=>by grind
  have j:x∈l:=by grind
  rw[AbW,AcH,M8,M8];exact po (N:=N) (fun a b o u=>g.same a b (d a o) (d b u)) (fun a o=>g.con a (d a o)) (fun e i=>oV (q e i)) (fun e i=>oV (f e (t e i))) (oV (f x j)).1 (oV (f x j)).2)]
end Go.Pev.Pl
end
section

end
section
namespace Go.Pev.Pl.ST
open Go.Sort
theorem OD{x y:Int×Int×Int×Bool×Unit}(_:ok x)(_:ok y):∃ c,DB (x,y,())=some (c,())/\ilt c (0:Int)=lt x y:=by
 rw[vX,oz,Ps,N3];simp only[P9,or_val,BF,lt];refine⟨_,rfl,?_⟩;apply AcY.2;by_cases d:x.1<y.1;simp[d];by_cases f:y.1<x.1;have a:¬ x.1=y.1:=by omega
 simp[d,f,a];have a:x.1=y.1:=by omega
 by_cases b:x.2.1<y.2.1;simp[a,b];by_cases e:y.2.1<x.2.1;simp[a,b,e];simp[a,b,e]
noncomputable def S:SG.SP (Int×Int×Int×Bool×Unit) Int:=⟨((0:Int),((0:Int),((0:Int),(false,())))),DB,tLt,ok,okz,So,lt,swo,fun a b=>OD a b⟩
theorem Ga(xs:List (Int×Int×Int×Bool×Unit))(h:xs.length<4294967296)(a:∀ x∈xs,ok x):∃ ys,ADf (xs,())=some (ys,())/\ys.Perm xs/\ys.Pairwise fun x y=>lt y x=false:=SG.Ga S xs h a
end Go.Pev.Pl.ST
end
section
namespace Go.Pev.Pl
open Tok
theorem AJT(n e:Int)(b ts:List Tie)(xs:List Edge)(c:List Bool)(m:xs.length<=4096)(o:ts.length<=400)(p:c.length=xs.length):
  A' Q3 many (n,b,e,xs,c,ts,A2 xs,(0:Int),())=some (.inl (n,b,e,xs,ts++UB xs c xs.length,())):=by
 have h:=EC (step:=Q3) (fun i (a:List Tie)=>(n,b,e,xs,c,a,A2 xs,(i:Int),())) (List.range xs.length) (fun i a=>.inl (a++[Th (xs.getD i (0,0,())) (c.getD i false)])) (fun a=>.inl (n,b,e,xs,a,())) (fun i a=>a.length=ts.length+i) (by grind)
  (fun i x a hi d q=>by
   refine⟨fun s f => ?_,fun r f=>(by cases f)⟩
   cases f
   have:=Ex d
   subst this
   rw[Aa9]at hi
   constructor
   ·rw[Q3,A7,A3,Aar hi]
    simp only[Gp ((0:Int),((0:Int),())) hi,Gp false (show x<c.length by omega),Lr]
    rw[A6 (by omega),CM (by simp only[A7,Aa1,Aa8];omega)]
    rfl
   grind)
  (fun a _=>by rw[Q3,Aa9,A7,A3,Aaq (by omega)]) ts rfl
 have j:A' Q3 many (n,b,e,xs,c,ts,A2 xs,(0:Int),())=_:=h;rw[j,CV (fun(i:Nat) (a:List Tie)=>a++[Th (xs.getD i (0,0,())) (c.getD i false)])];have g:∀ k,(List.range k).foldl (fun(a:List Tie) (i:Nat)=>a++[Th (xs.getD i (0,0,())) (c.getD i false)]) ts=ts++UB xs c k:=by
  intro k;induction k with
   |zero=>simp[UB]
   |succ k l=>rw[AbJ,AcB,l,AIC];simp
 rw[g]
theorem APj{N:Nat}{ts:List Tie}(h:RG2 N ts)(l:List Edge)(o:l.length<1073741824):
  (∃ e,e≠0/\pC (((N:Int),(ts,())),l,())=some ((N:Int),ts,0,e,())/\¬ (xF N l/\ts.length+(B4 N ts l).length<=400)) \/
  (xF N l/\ts.length+(B4 N ts l).length<=400/\pC (((N:Int),(ts,())),l,())=some ((N:Int),grown N ts l,((B4 N ts l).length:Int),0,())):=by
 have d:=eN h.h1 h.hN ts h.ht l o h.lr;rw[AEt,ABp];by_cases a:¬ ∀ e∈l,In (N:Int) e.1/\In (N:Int) e.2.1;rw[Aa2 a]at d;left;simp only[d,BI];exact⟨10,by omega,rfl,fun q=>a q.1⟩;have a:=Acy.1 a;rw[Aa5 a]at d;have p:=X9 N h.hN ts l;have f:=wQ h.hN ts l;have r:=eK N ts l;have g:=(Ql N _).1 (AJM h.hN h.oks l);have c:=AEr (B4 N ts l) (trs ts ts.length);have y:=h.ht;have s:=h.AaX;generalize t:grown N ts l=ts' at *;have u:kV (((N:Int),(ts,())),A2 (B4 N ts l),())=some (decide (ts.length+(B4 N ts l).length<=400),()):=by rw[eL,aJ];simp only[A7];rw[wrap_add (by omega),BR];congr 2;grind
 simp only[d,C',Aav,u];by_cases b:¬ ts.length+(B4 N ts l).length<=400;left;rw[Aaq b];exact⟨2,by omega,rfl,fun q=>b q.2⟩;have b:=Acy.1 b;right;rw[Aar b];obtain⟨i,j,v⟩:=vA h.h1 h.hN ts h.ht h.oks h.lr;have k:=sV h.h1 h.hN v (B4 N ts l) (by omega) h.inT f;obtain⟨ys,n,w,x⟩:=ST.Ga (ts++UB (B4 N ts l) (gfl (trs ts ts.length) (B4 N ts l)) (B4 N ts l).length) (by rw[Aa3,UB,AbN,Aa9];omega) (fun _ _=>trivial);rw[yn (N:=N) w x g.2 r.symm]at n;refine⟨a,b,?_⟩;have m:=AJT (N:Int) 0 ts ts (B4 N ts l) _ (by omega) h.ht c;simp only[Aav,j,k,Kv (show ts.length<=4294967296 by omega),m,n];rfl
end Go.Pev.Pl
end
section

end
section

end
section

end
section

end
section

end
section

end
section

end
section

end
section

end
section
namespace Go.Pev
open Go.Proofs
noncomputable section
abbrev pvT(ns:List Int):Option (List Int):=s8 120 [.i64] (.panic [DC (AGy 120 [.i64] ns)])
def AUZ[Lk]:(Int×Unit)->Option (Unit⊕(List Int×Unit)):=fun(a,_)=>
 match(!(ieq a (0:Int)))with
 |true=>some (.inr ([a],()))
 |false=>some (.inl ())
theorem AI9:∀ v,AUZ v=DW 0 Tryz.prog JS.e aG Tryz.f108 JL JK LM 120 [.i64] Qy v:=by intro _;kernel_rfl
def S2[Lk](v:Int×Unit):Option (Unit⊕(List Int×Unit)):=Yv v
abbrev yG:=Int×List (Int×Int×Int×Bool×Unit)×Int×Int×Int×Int×List Int×Unit
def aD[Lk]:(Int×List (Int×Int×Int×Bool×Unit)×Int×Int×Int×Int×List Int×(Int×List (Int×Int×Unit)×List (Int×Int×Int×Unit)×Unit)×(Int×Int×(Int×Int×List (List Int)×Unit)×Unit)×Unit)->Option (yG⊕(List Int×Unit)):=fun(b,c,d,e,f,i,g,h,a,_)=>
 match I7 ((b,(c,())),(h.1,(h.2.1,(h.2.2.1,()))),(a.1,(a.2.1,((a.2.2.1.1,(a.2.2.1.2.1,(a.2.2.1.2.2.1,()))),()))),())with
 |none=>none
 |some (y0,y1,y2,y3,y4,_)=>match S2 (y4,())with
  |none=>none
  |some r=>match r with
   |.inr (ns,_)=>match pvT ns with
    |some n=>some (.inr (n,()))
    |none=>none
   |.inl _=>match Ct ((w64 ((A2 y1)+(A2 y2))),(a.2.2.1.1,(a.2.2.1.2.1,(a.2.2.1.2.2.1,()))),())with
    |none=>none
    |some (z0,z1,z2,_)=>match S2 (z2,())with
     |none=>none
     |some r=>match r with
      |.inr (ns,_)=>match pvT ns with
       |some n=>some (.inr (n,()))
       |none=>none
      |.inl _=>match(ieq y0 (1:Int))with
       |true=>match pC ((b,(c,())),y1,())with
        |none=>none
        |some (u0,u1,u2,u3,_)=>match S2 (u3,())with
         |none=>none
         |some r=>match r with
          |.inr (ns,_)=>match pvT ns with
           |some n=>some (.inr (n,()))
           |none=>none
          |.inl _=>some (.inl (u0,u1,(w64 (d+(1:Int))),(w64 (e+(w64 (y3+z1)))),f,u2,g,()))
       |false=>match(ieq y0 (2:Int))with
        |true=>match j4 ((b,(c,())),y1,())with
         |none=>none
         |some (u0,u1,u2,_)=>match S2 (u2,())with
          |none=>none
          |some r=>match r with
           |.inr (ns,_)=>match pvT ns with
            |some n=>some (.inr (n,()))
            |none=>none
           |.inl _=>some (.inl (u0.1,u0.2.1,(w64 (d+(1:Int))),(w64 (e+(w64 (y3+z1)))),f,(A2 y1),g,()))
        |false=>match(ieq y0 (3:Int))with
         |true=>match cL ((b,(c,())),y2,())with
          |none=>none
          |some (u0,u1,_)=>match S2 (u1,())with
           |none=>none
           |some r=>match r with
            |.inr (ns,_)=>match pvT ns with
             |some n=>some (.inr (n,()))
             |none=>none
            |.inl _=>some (.inl (b,c,(w64 (d+(1:Int))),(w64 (e+(w64 (y3+z1)))),f,i,u0,()))
         |false=>match S2 (z2,())with
          |none=>none
          |some r=>match r with
           |.inr (ns,_)=>match pvT ns with
            |some n=>some (.inr (n,()))
            |none=>none
           |.inl _=>some (.inl (b,c,(w64 (d+(1:Int))),(w64 (e+(w64 (y3+z1)))),f,i,g,()))
def ABb[Lk](v:(Int×List (Int×Int×Int×Bool×Unit)×Int×Int×Int×Int×List Int×(Int×List (Int×Int×Unit)×List (Int×Int×Int×Unit)×Unit)×(Int×Int×(Int×Int×List (List Int)×Unit)×Unit)×Unit)):Option (yG⊕(List Int×Unit)):=dx v
theorem AI6:∀ v,aD v=DW 1 Tryz.prog Wa aC Tryz.f42 JJ JI LK 120 [.i64] Qv v:=by intro _;kernel_rfl
abbrev AaP:=(Int×List (Int×Int×Int×Bool×Unit)×Unit)×Int×Int×Unit
abbrev Aap:=Int×List (Int×Int×Unit)×List (Int×Int×Int×Unit)×Unit
abbrev Aam:=Int×Int×(Int×Int×List (List Int)×Unit)×Unit
def vH[Lk]:(AaP×Aap×Aam×Unit)->Option (AaP×(Int×Int×List Int×Unit)×Unit):=fun(s,x,w,_)=>
 match Hk (((s.1.1,(s.1.2.1,())),(s.2.1,(s.2.2.1,()))),())with
 |none=>none
 |some (y0,_)=>match(!y0)with
  |true=>some (((s.1.1,(s.1.2.1,())),(s.2.1,(s.2.2.1,()))),(1,(0,([],()))),())
  |false=>match ABb (s.1.1,s.1.2.1,s.2.1,s.2.2.1,(0:Int),(0:Int),[],(x.1,(x.2.1,(x.2.2.1,()))),(w.1,(w.2.1,((w.2.2.1.1,(w.2.2.1.2.1,(w.2.2.1.2.2.1,()))),()))),())with
   |none=>none
   |some r=>match r with
    |.inr (ns,_)=>some (((s.1.1,(s.1.2.1,())),(s.2.1,(s.2.2.1,()))),(ns.headD 0,(0,([],()))),())
    |.inl (a0,a1,a2,a3,a4,a5,a6,_)=>some (((a0,(a1,())),(a2,(a3,()))),(a4,(a5,(a6,()))),())
theorem ABZ:∀ v,vH v=Sf Tryz.prog WX Tryz.f12 2 Mi Mh Pj {} Qu Xf dv 3 v:=by intro _;kernel_rfl
end
end Go.Pev
end
section
namespace Go.Pev.Pl
theorem Mm(e:Int):S2 (e,())=if e=0 then some (.inl ())else some (.inr ([e],())):=by show Yv (e,())=_;refine((eB _).trans (AI9 _).symm).trans ?_;show(match(!(ieq e (0:Int)))with|true=>some (Sum.inr ([e],()))|false=>some (Sum.inl ()))=_;rw[BI];grind
theorem Zz(e:Int):pvT [e]=some [e]:=by kernel_rfl
section
variable {n:Int} {ts:List Tie} {b c:Int} {x:NK} {w:OG}
def OY(n:Int)(ts:List Tie)(b c:Int)(x:NK)(w:OG)(r:yG⊕(List Int×Unit)):Prop:=ABb (n,ts,b,c,(0:Int),(0:Int),[],x,w,())=some r
theorem AE7(x:NK)(w:OG):ABb (n,ts,b,c,(0:Int),(0:Int),[],x,w,())=aD (n,ts,b,c,(0:Int),(0:Int),[],x,w,()):=(dw _).trans (AI6 _).symm
theorem fE{k:Int}{d:List Edge}{a:List Ot}{m e:Int}(f:I7 ((n,(ts,())),x,w,())=some (k,d,a,m,e,()))(g:e≠0):OY n ts b c x w (.inr ([e],())):=by unfold OY;rw[AE7];obtain⟨h,i,j,⟨⟩⟩:=x;obtain⟨l,o,⟨p,q,r,⟨⟩⟩,⟨⟩⟩:=w;rw[aD];simp only[f,Mm,Aa2 g,Zz]
theorem AVE{k:Int}{f:List Edge}{d:List Ot}{m:Int}(o:I7 ((n,(ts,())),x,w,())=some (k,f,d,m,0,()))(s:f.length<=100000)(t:d.length<=100000){U:List Int}{q:Int}(p:Ct (((f.length+d.length:Nat):Int),w.2.2.1,())=some (U,q,0,())):
  (k=1->∀ g a j e,pC ((n,(ts,())),f,())=some (g,a,j,e,())->OY n ts b c x w (if e=0 then .inl (g,a,w64 (b+1),w64 (c+w64 (m+q)),0,j,[],())else .inr ([e],()))) /\
  (k=2->∀ g a l e,j4 ((n,(ts,())),f,())=some ((g,(a,())),l,e,())->OY n ts b c x w (if e=0 then .inl (g,a,w64 (b+1),w64 (c+w64 (m+q)),0,(f.length:Int),[],())else .inr ([e],()))) /\
  (k=3->∀ l e,cL ((n,(ts,())),d,())=some (l,e,())->OY n ts b c x w (if e=0 then .inl (n,ts,w64 (b+1),w64 (c+w64 (m+q)),0,0,l,())else .inr ([e],()))):=by
 unfold OY;rw[AE7];obtain⟨u,v,y,⟨⟩⟩:=x;obtain⟨z,A,⟨B,C,D,⟨⟩⟩,⟨⟩⟩:=w;rw[aD];have r:w64 ((A2 f)+(A2 d))=((f.length+d.length:Nat):Int):=by rw[A7,A7,wrap_add (by omega)]
 simp only[o,Mm,Abc,r];simp only[p,Mm,Abc,BI];refine⟨?_,?_,?_⟩;rintro rfl g a j e h;simp only[Aa6,h,Mm];by_cases i:e=0;grind;simp only[Aa2 i,Zz];rintro rfl g a l e h;simp only[show decide ((2:Int)=1)=false from rfl,Aa6,h,Mm,A7];by_cases i:e=0;grind;simp only[Aa2 i,Zz];rintro rfl l e h;simp only[show decide ((3:Int)=1)=false from rfl,show decide ((3:Int)=2)=false from rfl,Aa6,h,Mm];by_cases i:e=0;grind;simp only[Aa2 i,Zz]
end
end Go.Pev.Pl
end
section

end
section
namespace Go.Pev.Pl
abbrev qb:=(Int×(List (Int×Int×Int×Bool×Unit))×Unit)×Int×Int×Unit
abbrev xJ:=Int×Int×(List Int)×Unit
def tkO(s:qb):yG⊕(List Int×Unit)->Option (qb×xJ×Unit)
 |.inr (ns,_)=>some (s,(ns.headD 0,(0,([],()))),())
 |.inl (a0,a1,a2,a3,a4,a5,a6,_)=>some (((a0,(a1,())),(a2,(a3,()))),(a4,(a5,(a6,()))),())
theorem bn{n:Int}{ts:List Tie}{b c:Int}(a:Hk (((n,(ts,())),(b,(c,()))),())=some (true,()))(x:NK)(w:OG){r:yG⊕(List Int×Unit)}(h:OY n ts b c x w r):
  DN (((n,(ts,())),(b,(c,()))),x,w,())=tkO ((n,(ts,())),(b,(c,()))) r:=by refine((kM _).trans (ABZ _).symm).trans ?_;unfold OY at h;obtain⟨d,e,f,⟨⟩⟩:=x;obtain⟨g,i,⟨j,k,l,⟨⟩⟩,⟨⟩⟩:=w;unfold vH;dsimp only;simp only[a,Aav];rw[h];cases r<;>rfl
section
variable {N:Nat} {ts:List Tie} {b c:Int} {x:NK} {w:OG}
abbrev W6(N:Nat)(ts:List Tie)(b c:Int):qb:=(((N:Int),(ts,())),(b,(c,())))
theorem AI7{N:Nat}{ts:List Tie}(h:RG2 N ts){b c:Int}(e:0<=b/\b<=1099511627776)(f:0<=c/\c<=1099511627776):Hk (W6 N ts b c,())=some (true,()):=by
 have a:∀ n:Int,0<=n/\n<=1099511627776->Pp (n,())=some (true,()):=fun n d=>by rw[Yx,S7,BR,BR,Aar d.1,Aar d.2]
 rw[kN,dy];simp only[h.lr,a b e,a c f]
theorem AKG{N:Nat}(a:N<=64)(ts:List Tie)(l:List Edge):xF N (B4 N ts l):=wQ a ts l
theorem bo{e:Int}(d:e≠0)(a:Hk (W6 N ts b c,())=some (true,()))(hd:OY (N:Int) ts b c x w (.inr ([e],()))):DN (W6 N ts b c,x,w,())=some (W6 N ts b c,(e,(0,([],()))),()):=bn a _ w hd
theorem AGC(h:RG2 N ts)(j:Hk (W6 N ts b c,())=some (true,()))(d:WR x)(k:∀ v∈Et x,v<(N:Int))(l:x.1=1)(m:NF w)(f:FO 60 w.2.2.1)(n:ts.length+(B4 N ts x.2.1).length<=400):
  ∃ (U:List Int) (q:Int),Ct (((B4 N ts x.2.1).length:Int),w.2.2.1,())=some (U,q,0,()) /\
   DN (W6 N ts b c,x,w,())=some (W6 N (grown N ts (B4 N ts x.2.1)) (w64 (b+1)) (w64 (c+w64 (Fa w (Dc x.2.1).length+q))),(0,(((B4 N ts x.2.1).length:Int),([],()))),()):=by
 obtain⟨o,y,z⟩:=bB d;have g:=wU h d k (w:=w) (.inl l) fun _=>f.mono o;rw[Aa5 m,Aa2 (by omega),Aa2 (by omega)]at g;have p:=X9 N h.hN ts x.2.1;have r:=AVW N ts x.2.1;obtain⟨U,q,_,_,_,i⟩:=f ((B4 N ts x.2.1).length+([]:List Ot).length) (by simp only[Aa8];omega);obtain⟨s,_,_⟩:=AVE (b:=b) (c:=c) g (by omega) (by simp) i;refine⟨nI U,(q:Int),i,?_⟩;have a:=fM N ts x.2.1;rcases APj h (B4 N ts x.2.1) (by omega)with⟨e,_,_,t⟩|⟨_,_,u⟩
 exact absurd ⟨AKG h.hN ts x.2.1,by rw[a];exact n⟩ t;have hd:=s rfl _ _ _ _ u;rw[Aa5 rfl,a]at hd;exact bn j _ w hd
end
theorem AGe{N:Nat}{ts:List Tie}{b c:Int}(a:ts.length<1073741824):PD (W6 N ts b c,W6 N ts b c,())=some (true,()):=by rw[jc,cO];simp only[sX (N:Int) ts a,C']
abbrev VO:OG:=((8:Int),(3:Int),((2:Int),(3:Int),[[(0:Int),1],[1,0],[2,0]],()),())
theorem eg:NF VO:=by decide
theorem AQB:X0 ()=some (8,3,2,3,[[0,1],[1,0],[2,0]],()):=by rw[aP];rfl
theorem lz(T:Tk ()=some (true,()))(x:List Int)(l:List Edge)(V:wfD (.arr 2 (.int .u16)) x){B:Prop}(_:B):GA (x,l,())=some (true,()):=by
 obtain⟨W,S⟩:=V;match x,W with
 |[p,q],_=>
  have j:=S p (by simp)
  have k:=S q (by simp)
  have C:(IntKind.u16).min=0:=by decide
  have D:(IntKind.u16).max=65535:=by decide
  unfold wfD at j k
  rw[C,D]at j k
  have X:(0:Int)<=(p:Int)/\(p:Int)<=65535:=j
  have Y:(0:Int)<=(q:Int)/\(q:Int)<=65535:=k
  clear j k
  rw[TT,Oy]
  simp only[T,A7]
  rw[BF]
  by_cases hl:l.length<=60
  rotate_left
  ·rw[Aar (by omega)]
  rw[Aaq (by omega)]
  obtain⟨p,rfl⟩:=Aaw X.1
  obtain⟨q,rfl⟩:=Aaw Y.1
  have Z:A9 [(p:Int),(q:Int)] 0 (0:Int)=(p:Int):=rfl
  have d1:A9 [(p:Int),(q:Int)] 1 (0:Int)=(q:Int):=rfl
  rw[Z,d1,BM (by omega),BM (by omega)]
  have r1:rem? (p:Int) (64:Int)=some ((p % 64:Nat):Int):=by rw[cg,zS,Aa2 (by decide)];rfl
  have r2:rem? (q:Int) (401:Int)=some ((q % 401:Nat):Int):=by rw[cg,zS,Aa2 (by decide)];rfl
  have hm1:=Acr p (show 0<64 by decide)
  have hm2:=Acr q (show 0<401 by decide)
  have M:w64 ((1:Int)+((p % 64:Nat):Int))=((p % 64+1:Nat):Int):=by rw[BM (by omega)];omega
  simp only[r1,r2,M]
  generalize hNe:p % 64+1=N
  generalize hme:q % 401=m
  have g:=APk (N:=N) (m:=m) (by omega) (by omega) (by omega)
  have E:=AB1 (N:=N) (m:=m) (by omega) (by omega)
  generalize (Er N N).take m=ts at g E
  have ht:=g.ht
  have y:∀ z:Int,ieq z z=true:=C'
  have o:=AI7 g (b:=5) (c:=7) (by omega) (by omega)
  have a:=AGe (N:=N) (ts:=ts) (b:=5) (c:=7) (by omega)
  have d:=AIE g.h1 g.hN ts g.ht l (by omega) g.r21
  simp only[E,AQB,sr]
  by_cases A:WR ((1:Int),l,([]:List Ot),())
  rotate_left
  ·have t:=AKM (n:=(N:Int)) (ts:=ts) (w:=VO) (by omega) (fun h=>A h.2)
   have f:=bo (by omega) o (fE (b:=5) (c:=7) t (by omega))
   simp only[W6,VO]at f a
   simp only[f,Aaq A,AbF]
   have F:ieq (1:Int) (10:Int)=false:=by rw[BI];rfl
   by_cases i:∀ e∈l,In (N:Int) e.1/\In (N:Int) e.2.1
   ·rw[Aa5 i]at d
    simp only[d,y,Aav,F,a]
   ·rw[Aa2 i]at d
    have O:ieq (10:Int) (0:Int)=false:=by rw[BI];rfl
    simp only[d,y,O,AbF,F,a]
  obtain⟨_,_,u⟩:=bB A
  simp only at u
  by_cases r:∃ v∈Et ((1:Int),l,([]:List Ot),()),(N:Int)<=v
  ·have t:=ACk (w:=VO) g A r
   have f:=bo (by omega) o (fE (b:=5) (c:=7) t (by omega))
   have i:¬ ∀ e∈l,In (N:Int) e.1/\In (N:Int) e.2.1:=by
    intro G
    obtain⟨v,r,hvN⟩:=r
    unfold Et at r
    simp only[Adr,Abd,Ab4]at r
    obtain⟨e,H,r⟩:=r
    obtain⟨i1,i2⟩:=G e H
    simp only[AbD,AdP,or_false]at r
    unfold In at i1 i2
    omega
   rw[Aa2 i]at d
   have O:ieq (10:Int) (0:Int)=false:=by rw[BI];rfl
   simp only[W6,VO]at f a
   simp only[f,d,y,O,AbF,a]
  have s:∀ v∈Et ((1:Int),l,([]:List Ot),()),v<(N:Int):=fun v hm=>by
   rcases Int.lt_or_le v (N:Int)with h|h
   ·exact h
   ·exact absurd ⟨v,hm,h⟩ r
  have I:∀ e∈l,In (N:Int) e.1/\In (N:Int) e.2.1:=fun e H=>by
   have L:=u e H
   have m1:=s e.1 (Aa7.2 (.inl (Ab4.2 ⟨e,H,by simp⟩)))
   have m2:=s e.2.1 (Aa7.2 (.inl (Ab4.2 ⟨e,H,by simp⟩)))
   have:=g.h1
   have:=g.hN
   unfold GV at L
   unfold In
   omega
  rw[Aa5 I]at d
  have hcl:=X9 N g.hN ts l
  have J:w64 ((ts.length:Int)+((B4 N ts l).length:Int))=((ts.length+(B4 N ts l).length:Nat):Int):=by rw[BM (by omega)];omega
  simp only[d,Aar A,y,Aav,A7,J]
  by_cases L:ts.length+(B4 N ts l).length<=400
  ·obtain⟨U,q',_,f⟩:=AGC (b:=5) (c:=7) (w:=VO) g o A s rfl eg ((APw eg.2.2.2.2).mono (by omega)) L
   have P:(grown N ts (B4 N ts l)).length=ts.length+(B4 N ts l).length:=by
    have:=(eK N ts (B4 N ts l)).length_eq
    rw[fM]at this
    rw[this]
    simp only[UB,Aa3,AbN,Aa9]
   simp only[W6,VO]at f
   have w6:w64 ((5:Int)+1)=6:=by rw[BM (by omega)];rfl
   simp only[f,P,y,w6]
   rw[BF,Aaq (by omega)]
  ·have t:=wV (w:=VO) g A s (.inl rfl)
   rw[Aa5 eg,Aa2 (show ¬ (1:Int)=2 by decide)]at t
   simp only at t
   rw[Aa5 (by omega)]at t
   have f:=bo (by omega) o (fE (b:=5) (c:=7) t (by omega))
   have Q:kV (((N:Int),(ts,())),((B4 N ts l).length:Int),())=some (decide (ts.length+(B4 N ts l).length<=400),()):=by
    rw[eL,aJ]
    simp only[A7]
    rw[J,BR]
    congr 2
    exact AcY.2 (by omega)
   have K:=eN g.h1 g.hN ts g.ht l (by omega) g.lr
   rw[Aa5 I]at K
   have R:AEs (((N:Int),(ts,())),l,())=some (false,()):=by
    rw[vW,ox]
    simp only[K,y,A7,Q,Aaq L]
   simp only[W6,VO]at f a
   simp only[f,a,R,y,AbF]
   rw[BF,Aar (by omega)]
abbrev Bt8:=Int×(List (Int×Int×Unit))×(List (Int×Int×Int×Unit))×Unit
abbrev Wy8:=Int×Int×(Int×Int×(List (List Int))×Unit)×Unit
theorem CE{α β:Type}(f:Lk->α->β){a:α}{v:β}(h:f idI a=v):f lockI a=v:=by rw[dg];exact h
inductive Rn(w:Wy8):qb->List Bt8->qb->List xJ->Prop
 |nil (s:qb):Rn w s [] s []
 |cons {s a t:qb} {x:Bt8} {r:xJ} {xs:List Bt8} {l:List xJ}:DN (s,x,w,())=some (a,r,())->Rn w a xs t l->Rn w s (x::xs) t (r::l)
theorem Rn.iter{w:Wy8}{s t:qb}{d:List Bt8}{l:List xJ}(h:Rn w s d t l):∀ (b:List Bt8) (c:List xJ) (e:Int) (m:Nat),d.length<m->c.length+d.length<1000000->b.length+d.length<1000000 ->
  BK UL m (s.1.1,s.1.2.1,s.2.1,s.2.2.1,w.1,w.2.1,w.2.2.1.1,w.2.2.1.2.1,w.2.2.1.2.2.1,(0:Int),(0:Int),(0:Int),e,c,b++d,A2 (b++d),(b.length:Int),())=some (.inl (t.1.1,t.1.2.1,t.2.1,t.2.2.1,0,0,0,e,c++l,())):=by
 induction h with
  |nil s=>
   intro b c e m f _ _;obtain⟨k,rfl⟩:∃ k,m=k+1:=⟨m-1,by omega⟩
   rw[BK,UL,A7,A3,Aaq (by simp),Abd,Abd]
  |@cons s a t x r xs l ht _ ih=>
   intro b c e m f i j;simp only[Aa1]at f i j;obtain⟨k,rfl⟩:∃ k,m=k+1:=⟨m-1,by omega⟩
   have n:(b++x::xs)[b.length]? = some x:=by simp
   have g:=ih (b++[x]) (c++[r]) e k (by omega) (by grind) (by grind);simp only[AcC,AcQ,Aa3,AcT]at g;obtain⟨⟨o,p,⟨⟩⟩,q,u,⟨⟩⟩:=s;obtain⟨v,y,⟨z,A,B,⟨⟩⟩,⟨⟩⟩:=w;obtain⟨C,D,E,⟨⟩⟩:=x;obtain⟨F,G,H,⟨⟩⟩:=r;rw[BK,UL,A7,A3,Aar (by simp)];simp only[BA n,ht];rw[CM (by simp only[A7,AcT];omega),A6 (by omega)];simp only[ES,<- A7];exact g
theorem Rn.run{w:Wy8}{s t:qb}{a:List Bt8}{l:List xJ}(h:Rn w s a t l)(d:Hk (s,())=some (true,())){b:List Int}{p e:Int}(f:GY (b,())=some (a,p,e,()))(o:a.length<900000)(q:l.length<900000):
  ABd (s,b,w,())=some (t,l++(if e=0 then []else [(e,((0:Int),([],())))]),e,()):=by have g:=h.iter [] [] e many (by simp only[many];omega) (by grind) (by grind);rw[AEm,ABc];obtain⟨⟨i,j,⟨⟩⟩,k,m,⟨⟩⟩:=s;simp only[d,Aav,f];rw[Bo];have n:BK UL many (i,j,k,m,w.1,w.2.1,w.2.2.1.1,w.2.2.1.2.1,w.2.2.1.2.2.1,(0:Int),(0:Int),(0:Int),e,([]:List xJ),a,A2 a,(0:Int),())=_:=g;simp only[n,AbW];rw[BI];by_cases c:e=0;grind;rw[Aaq c,Aa2 c];simp only[AbF];rw[CM (by simp only[A7,AcT];omega)];rfl
open Tok
abbrev PgT:=Int×Int×Int×Int×Int×Unit
inductive Bk(w:OG)(N:Nat):List Tie->List NK->List Tie->List PgT->Prop
 |nil (ts:List Tie):Bk w N ts [] ts []
 |page {ts t1 t2:List Tie} {x:NK} {p:PgT} {xs:List NK} {ps:List PgT}:Vx (((N:Int),(ts,())),x,w,())=some (((N:Int),(t1,())),p,0,())->Bk w N t1 xs t2 ps->Bk w N ts (x::xs) t2 (p::ps)
 |skip {ts t1 t2:List Tie} {x:NK} {p:PgT} {e:Int} {xs:List NK} {ps:List PgT}:e≠0->Vx (((N:Int),(ts,())),x,w,())=some (((N:Int),(t1,())),p,e,())->Bk w N ts xs t2 ps->Bk w N ts (x::xs) t2 ps
theorem Bk.iter{w:OG}{N:Nat}{ts d:List Tie}{c:List NK}{i:List PgT}(h:Bk w N ts c d i):∀ (a:List NK) (b:List PgT) (e:Int) (m:Nat),c.length<m->b.length+c.length<1000000->a.length+c.length<1000000 ->
  BK NB m ((N:Int),ts,w.1,w.2.1,w.2.2.1.1,w.2.2.1.2.1,w.2.2.1.2.2.1,(0:Int),e,b,a++c,A2 (a++c),(a.length:Int),())=some (.inl ((N:Int),d,0,e,b++i,())):=by
 induction h with
  |nil s=>
   intro a b e m j _ _;obtain⟨k,rfl⟩:∃ k,m=k+1:=⟨m-1,by omega⟩
   rw[BK,NB,A7,A3,Aaq (by simp),Abd,Abd]
  |@page ts t1 t2 x p xs i ht _ ih=>
   intro a b e m j l n;simp only[Aa1]at j l n;obtain⟨k,rfl⟩:∃ k,m=k+1:=⟨m-1,by omega⟩
   have o:(a++x::xs)[a.length]? = some x:=by simp
   have g:=ih (a++[x]) (b++[p]) e k (by omega) (by grind) (by grind);simp only[AcC,AcQ,Aa3,AcT]at g;obtain⟨q,r,⟨t,u,v,⟨⟩⟩,⟨⟩⟩:=w;obtain⟨y,z,A,⟨⟩⟩:=x;obtain⟨B,C,D,E,F,⟨⟩⟩:=p;rw[BK,NB,A7,A3,Aar (by simp)];simp only[BA o,ht,C'];rw[CM (by simp only[A7,AcT];omega),A6 (by omega)];simp only[ES,<- A7];exact g
  |@skip ts t1 t2 x p f xs i hf ht _ ih=>
   intro a b e m j l n;simp only[Aa1]at j l n;obtain⟨k,rfl⟩:∃ k,m=k+1:=⟨m-1,by omega⟩
   have o:(a++x::xs)[a.length]? = some x:=by simp
   have g:=ih (a++[x]) b e k (by omega) (by grind) (by grind);simp only[AcC,AcQ,Aa3,AcT]at g;obtain⟨q,r,⟨t,u,v,⟨⟩⟩,⟨⟩⟩:=w;obtain⟨y,z,A,⟨⟩⟩:=x;rw[BK,NB,A7,A3,Aar (by simp)];simp only[BA o,ht,BI,Aaq hf];rw[A6 (by omega)];simp only[<- A7];exact g
theorem Bk.book{w:OG}{N:Nat}{ts a:List Tie}{c:List NK}{d:List PgT}(h:Bk w N ts c a d)(f:D3 (((N:Int),(ts,())),())=some (true,())){b:List Int}{p e:Int}(g:GY (b,())=some (c,p,e,()))(k:c.length<900000):
  w7 (((N:Int),(ts,())),b,w,())=some (((N:Int),(a,())),d,e,()):=by have i:=h.iter [] [] e many (by simp only[many];omega) (by grind) (by grind);rw[wz,qS];simp only[f,Aav,g];rw[Bo];have j:BK NB many ((N:Int),ts,w.1,w.2.1,w.2.2.1.1,w.2.2.1.2.1,w.2.2.1.2.2.1,(0:Int),e,([]:List PgT),c,A2 c,(0:Int),())=_:=i;simp only[j,AbW]
theorem AOP{N e b c f z:Int}{ts a:List Tie}{g:List Edge}{d:List Ot}{w:OG}{l:List Int}(h:DN (((N,(ts,())),(0,(0,()))),(1,(g,(d,()))),w,())=some (((e,(a,())),(b,(c,()))),(0,(f,(l,()))),()))
  (i:Kw ((e,(a,())),())=some (z,())):Vx ((N,(ts,())),(1,(g,(d,()))),w,())=some ((e,(a,())),(f,(0,(0,(0,(z,()))))),0,()):=by obtain⟨j,k,⟨m,n,o,⟨⟩⟩,⟨⟩⟩:=w;rw[fb,aW];simp only[h,C',Aav,i]
theorem AOO{N e b c m z n g h i j o:Int}{ts a p:List Tie}{f k:List Edge}{d:List Ot}{w:OG}{l:List Int}(q:DN (((N,(ts,())),(0,(0,()))),(2,(f,(d,()))),w,())=some (((e,(a,())),(b,(c,()))),(0,(m,(l,()))),()))
  (r:Yd ((N,(ts,())),f,())=some (k,0,())) (s:lJ (N,ts,0,0,0,0,0,k,())=some (n,p,g,h,i,j,o,())) (t:Kw ((e,(a,())),())=some (z,())):Vx ((N,(ts,())),(2,(f,(d,()))),w,())=some ((e,(a,())),(g,(h,(i,(j,(z,()))))),0,()):=by
 obtain⟨v,x,⟨y,A,B,⟨⟩⟩,⟨⟩⟩:=w;have u:ieq (2:Int) (1:Int)=false:=by rw[BI];rfl
 rw[fb,aW];simp only[q,C',Aav,u,r,s,t]
theorem ADc:X0 ()=some (8,3,2,3,[[0,1],[1,0],[2,0]],()):=by rw[aP];rfl
theorem AWl:GY ([1,0,4,0,0,0,1,0,1,0,2,0,0,0,2,0,2,0,3,2,0,1,0,0,0,1],())=some ([(1,[(0,1,()),(1,2,()),(0,2,()),(2,3,())],[],()),(2,[(0,1,())],[],())],26,0,()):=CE (fun i=>@GY i) (by kernel_rfl)
theorem AWk:DN (((5,[],()),0,0,()),(1,[(0,1,()),(1,2,()),(0,2,()),(2,3,())],[],()),(8,3,(2,3,[[0,1],[1,0],[2,0]],()),()),())=some (((5,[(0,1,0,true,()),(0,2,0,true,()),(1,2,0,false,()),(2,3,0,true,())],()),1,16,()),(0,4,[],()),()):=CE (fun i=>@DN i) (by kernel_rfl)
theorem AZl:DN (((5,[(0,1,0,true,()),(0,2,0,true,()),(1,2,0,false,()),(2,3,0,true,())],()),1,16,()),(2,[(0,1,())],[],()),(8,3,(2,3,[[0,1],[1,0],[2,0]],()),()),())=some (((5,[(0,2,0,true,()),(1,2,0,true,()),(2,3,0,true,())],()),2,28,()),(0,1,[],()),()):=CE (fun i=>@DN i) (by kernel_rfl)
theorem AZo:Rn (8,3,(2,3,[[0,1],[1,0],[2,0]],()),()) ((5,[],()),0,0,()) [(1,[(0,1,()),(1,2,()),(0,2,()),(2,3,())],[],()),(2,[(0,1,())],[],())] ((5,[(0,2,0,true,()),(1,2,0,true,()),(2,3,0,true,())],()),2,28,()) [(0,4,[],()),(0,1,[],())]:=.cons AWk (.cons AZl (.nil _))
theorem AZs:Hk (((5,[],()),0,0,()),())=some (true,()):=CE (fun i=>@Hk i) (by kernel_rfl)
theorem ALz:ABd (((5,[],()),0,0,()),[1,0,4,0,0,0,1,0,1,0,2,0,0,0,2,0,2,0,3,2,0,1,0,0,0,1],(8,3,(2,3,[[0,1],[1,0],[2,0]],()),()),())=some (((5,[(0,2,0,true,()),(1,2,0,true,()),(2,3,0,true,())],()),2,28,()),[(0,4,[],()),(0,1,[],())],0,()):=AZo.run AZs AWl (AbP rfl) (AbP rfl)
theorem AZn:Kw ((5,[(0,1,0,true,()),(0,2,0,true,()),(1,2,0,false,()),(2,3,0,true,())],()),())=some (12,()):=CE (fun i=>@Kw i) (by kernel_rfl)
theorem AZm:Kw ((5,[(0,2,0,true,()),(1,2,0,true,()),(2,3,0,true,())],()),())=some (9,()):=CE (fun i=>@Kw i) (by kernel_rfl)
theorem AZq:Vx ((5,[],()),(1,[(0,1,()),(1,2,()),(0,2,()),(2,3,())],[],()),(8,3,(2,3,[[0,1],[1,0],[2,0]],()),()),())=some ((5,[(0,1,0,true,()),(0,2,0,true,()),(1,2,0,false,()),(2,3,0,true,())],()),(4,0,0,0,12,()),0,()):=AOP AWk AZn
theorem AZk:DN (((5,[(0,1,0,true,()),(0,2,0,true,()),(1,2,0,false,()),(2,3,0,true,())],()),0,0,()),(2,[(0,1,())],[],()),(8,3,(2,3,[[0,1],[1,0],[2,0]],()),()),())=some (((5,[(0,2,0,true,()),(1,2,0,true,()),(2,3,0,true,())],()),1,12,()),(0,1,[],()),()):=CE (fun i=>@DN i) (by kernel_rfl)
theorem AZt:Yd ((5,[(0,1,0,true,()),(0,2,0,true,()),(1,2,0,false,()),(2,3,0,true,())],()),[(0,1,())],())=some ([(0,1,())],0,()):=CE (fun i=>@Yd i) (by kernel_rfl)
theorem AZu:lJ (5,[(0,1,0,true,()),(0,2,0,true,()),(1,2,0,false,()),(2,3,0,true,())],0,0,0,0,0,[(0,1,())],())=some (5,[(0,2,0,true,()),(1,2,0,true,()),(2,3,0,true,())],0,1,0,3,0,()):=CE (fun i=>@lJ i) (by kernel_rfl)
theorem AZp:Vx ((5,[(0,1,0,true,()),(0,2,0,true,()),(1,2,0,false,()),(2,3,0,true,())],()),(2,[(0,1,())],[],()),(8,3,(2,3,[[0,1],[1,0],[2,0]],()),()),())=some ((5,[(0,2,0,true,()),(1,2,0,true,()),(2,3,0,true,())],()),(0,1,0,3,9,()),0,()):=AOO AZk AZt AZu AZm
theorem AZr:D3 ((5,[],()),())=some (true,()):=CE (fun i=>@D3 i) (by kernel_rfl)
theorem AW1:w7 ((5,[],()),[1,0,4,0,0,0,1,0,1,0,2,0,0,0,2,0,2,0,3,2,0,1,0,0,0,1],(8,3,(2,3,[[0,1],[1,0],[2,0]],()),()),())=some ((5,[(0,2,0,true,()),(1,2,0,true,()),(2,3,0,true,())],()),[(4,0,0,0,12,()),(0,1,0,3,9,())],0,()):=(Bk.page AZq (.page AZp (.nil _)):Bk ((8:Int),((3:Int),(((2:Int),((3:Int),(([[0,1],[1,0],[2,0]]:List (List Int)),()))),()))) 5 _ _ _ _).book AZr AWl (AbP rfl)
theorem AWj:Nt ((((5:Int),([(0,2,0,true,()),(1,2,0,true,()),(2,3,0,true,())]:List (Int×Int×Int×Bool×Unit)),()),(2:Int),(28:Int),()),([(2:Int),(1:Int),(4:Int)]:List Int),())=some ([([0,7,16,1,12,2,18,3,22,15],[2,1,1,1,2,3,2,2,1,2],[[1,4],[2],[3],[4],[5,5],[6,6,5],[7,7],[8,9],[9],[0,0]],()),([4],[1],[[0]],())],0,()):=CE (fun i=>@Nt i) (by kernel_rfl)
theorem AWu{α:Type}(a b:α):A2 [a,b]=2:=rfl
theorem AWq:mg ((11:Int),())=some ([0,0,0,0,0,0,0,0,0,0,0],[10,9,8,7,6,5,4,3,2,1,0],[(0,0,[],()),(0,0,[],()),(0,0,[],()),(0,0,[],()),(0,0,[],()),(0,0,[],()),(0,0,[],()),(0,0,[],()),(0,0,[],()),(0,0,[],()),(0,0,[],())],0,()):=CE (fun i=>@mg i) (by kernel_rfl)
theorem AWy{α:Type}(a b:α):idx [a,b] (0:Int)=some a:=BA (n:=0) rfl
theorem AWz{α:Type}(a b z:α):A9 [a,b] 0 z=a:=rfl
theorem AWp:ADb (((([0,0,0,0,0,0,0,0,0,0,0]:List Int),([10,9,8,7,6,5,4,3,2,1,0]:List Int),()),([(0,0,[],()),(0,0,[],()),(0,0,[],()),(0,0,[],()),(0,0,[],()),(0,0,[],()),(0,0,[],()),(0,0,[],()),(0,0,[],()),(0,0,[],()),(0,0,[],())]:List (Int×Int×(List (Int×Int×Unit))×Unit)),()),(([0,7,16,1,12,2,18,3,22,15]:List Int),([2,1,1,1,2,3,2,2,1,2]:List Int),([[1,4],[2],[3],[4],[5,5],[6,6,5],[7,7],[8,9],[9],[0,0]]:List (List Int)),()),())=some ([1,1,1,1,1,1,1,1,1,1,0],[10],[(0,2,[(1,1,()),(4,1,())],()),(7,1,[(2,1,())],()),(16,1,[(3,1,())],()),(1,1,[(4,1,())],()),(12,2,[(5,1,()),(5,1,())],()),(2,3,[(6,1,()),(6,1,()),(5,1,())],()),(18,2,[(7,1,()),(7,1,())],()),(3,2,[(8,1,()),(9,1,())],()),(22,1,[(9,1,())],()),(15,2,[(0,1,()),(0,1,())],()),(0,0,[],())],(0,1,()),0,()):=CE (fun i=>@ADb i) (by kernel_rfl)
theorem AWo:mb (((([1,1,1,1,1,1,1,1,1,1,0]:List Int),([10]:List Int),()),([(0,2,[(1,1,()),(4,1,())],()),(7,1,[(2,1,())],()),(16,1,[(3,1,())],()),(1,1,[(4,1,())],()),(12,2,[(5,1,()),(5,1,())],()),(2,3,[(6,1,()),(6,1,()),(5,1,())],()),(18,2,[(7,1,()),(7,1,())],()),(3,2,[(8,1,()),(9,1,())],()),(22,1,[(9,1,())],()),(15,2,[(0,1,()),(0,1,())],()),(0,0,[],())]:List (Int×Int×(List (Int×Int×Unit))×Unit)),()),((0:Int),(1:Int),()),())=some ([0,7,16,1,12,2,18,3,22,15],[2,1,1,1,2,3,2,2,1,2],[[1,4],[2],[3],[4],[5,5],[6,6,5],[7,7],[8,9],[9],[0,0]],[(0,1,()),(1,1,()),(2,1,()),(3,1,()),(4,1,()),(5,1,()),(6,1,()),(7,1,()),(8,1,()),(9,1,())],0,()):=CE (fun i=>@mb i) (by kernel_rfl)
theorem AWn:ADe (((5:Int),([((0:Int),(1:Int),(0:Int),false,())]:List (Int×Int×Int×Bool×Unit)),()),(1:Int),(0:Int),())=some ((true,(0,1,()),1,1,()),0,()):=CE (fun i=>@ADe i) (by kernel_rfl)
theorem AW2:Tj (([(1:Int),(0:Int),(4:Int),(0:Int),(0:Int),(0:Int),(1:Int),(0:Int),(1:Int),(0:Int),(2:Int),(0:Int),(0:Int),(0:Int),(2:Int),(0:Int),(2:Int),(0:Int),(3:Int),(2:Int),(0:Int),(1:Int),(0:Int),(0:Int),(0:Int),(1:Int)]:List Int),())=some ([(1,[(0,1,()),(1,2,()),(0,2,()),(2,3,())],[],()),(2,[(0,1,())],[],())],26,0,()):=CE (fun i=>@Tj i) (by kernel_rfl)
theorem AWm:nE ((([0,7,16,1,12,2,18,3,22,15]:List Int),([2,1,1,1,2,3,2,2,1,2]:List Int),([[1,4],[2],[3],[4],[5,5],[6,6,5],[7,7],[8,9],[9],[0,0]]:List (List Int)),()),(([0,7,16,1,12,2,18,3,22,15]:List Int),([2,1,1,1,2,3,2,2,1,2]:List Int),([[1,4],[2],[3],[4],[5,5],[6,6,5],[7,7],[8,9],[9],[0,0]]:List (List Int)),()),())=some (true,()):=CE (fun i=>@nE i) (by kernel_rfl)
theorem AWs:de (((5:Int),([(0,2,0,true,()),(1,2,0,true,()),(2,3,0,true,())]:List (Int×Int×Int×Bool×Unit)),()),((5:Int),([(0,2,0,true,()),(1,2,0,true,()),(2,3,0,true,())]:List (Int×Int×Int×Bool×Unit)),()),())=some (true,()):=CE (fun i=>@de i) (by kernel_rfl)
theorem AWx:idx ([(4,0,0,0,12,()),(0,1,0,3,9,())]:List (Int×Int×Int×Int×Int×Unit)) (0:Int)=some (4,0,0,0,12,()):=BA (n:=0) rfl
theorem AWw:idx ([(4,0,0,0,12,()),(0,1,0,3,9,())]:List (Int×Int×Int×Int×Int×Unit)) (1:Int)=some (0,1,0,3,9,()):=BA (n:=1) rfl
theorem AWv{α:Type}(a b z:α):A9 [a,b] 1 z=b:=rfl
theorem AW0:Vt (([((1:Int),([(0,1,()),(1,2,()),(0,2,()),(2,3,())]:List (Int×Int×Unit)),([]:List (Int×Int×Int×Unit)),()),((2:Int),([(0,1,())]:List (Int×Int×Unit)),([]:List (Int×Int×Int×Unit)),())]:List (Int×(List (Int×Int×Unit))×(List (Int×Int×Int×Unit))×Unit)),((8:Int),(3:Int),((2:Int),(3:Int),([[0,1],[1,0],[2,0]]:List (List Int)),()),()),())=some (228,()):=CE (fun i=>@Vt i) (by kernel_rfl)
theorem AWt:ile 28 228=true:=by rw[BR];rfl
theorem AWr:ilt 0 28=true:=by rw[BF];rfl
theorem ALy(a:rk ()=some (true,())):Tk ()=some (true,()):=by
 rw[sF,mh]
 repeat first
  |simp only[a,ADc,ALz,AW1,AWj,AWu,AWq,AWy,AWz,AWp,AWo,AWn,AW2,AWm,AWs,AWx,AWw,AWv,AW0,AWt,AWr,UQ,Aav,Adq,Aby]
  |rw[a]
  |rw[ADc]
  |rw[ALz]
  |rw[AW1]
  |rw[AWj]
  |rw[AWu]
  |rw[AWq]
  |rw[AWy]
  |rw[AWz]
  |rw[AWp]
  |rw[AWo]
  |rw[AWn]
  |rw[AW2]
  |rw[AWm]
  |rw[AWs]
  |rw[AWx]
  |rw[AWw]
  |rw[AWv]
  |rw[AW0]
  |rw[AWt]
  |rw[AWr]
 try rfl
theorem ADN:X0 ()=some (8,3,2,3,[[0,1],[1,0],[2,0]],()):=by rw[aP];rfl
theorem AWW:H5 (((1:Int),([(0,1,()),(1,2,()),(2,0,()),(3,2,())]:List (Int×Int×Unit)),([]:List (Int×Int×Int×Unit)),()),())=some ([1,0,4,0,0,0,1,0,1,0,2,0,2,0,0,0,3,0,2],0,()):=CE (fun i=>@H5 i) (by kernel_rfl)
theorem AWV:H5 (((2:Int),([(1,0,())]:List (Int×Int×Unit)),([]:List (Int×Int×Int×Unit)),()),())=some ([2,0,1,0,1,0,0],0,()):=CE (fun i=>@H5 i) (by kernel_rfl)
theorem AWU:H5 (((3:Int),([]:List (Int×Int×Unit)),([(3,3,0,()),(4,0,0,())]:List (Int×Int×Int×Unit)),()),())=some ([3,0,2,3,0,3,0,0,4,0,0,0,0],0,()):=CE (fun i=>@H5 i) (by kernel_rfl)
theorem AWh:oi ((5:Int),())=some (((5,[],()),0,0,()),0,()):=CE (fun i=>@oi i) (by kernel_rfl)
theorem AWS:fits (A2 ([1,0,4,0,0,0,1,0,1,0,2,0,2,0,0,0,3,0,2]:List Int)+A2 ([2,0,1,0,1,0,0]:List Int))=true:=CM (by simp[A2])
theorem AWc:B2 ([1,0,4,0,0,0,1,0,1,0,2,0,2,0,0,0,3,0,2]:List Int) ([2,0,1,0,1,0,0]:List Int)=([1,0,4,0,0,0,1,0,1,0,2,0,2,0,0,0,3,0,2,2,0,1,0,1,0,0]:List Int):=rfl
theorem AWR:fits (A2 ([1,0,4,0,0,0,1,0,1,0,2,0,2,0,0,0,3,0,2,2,0,1,0,1,0,0]:List Int)+A2 ([3,0,2,3,0,3,0,0,4,0,0,0,0]:List Int))=true:=CM (by simp[A2])
theorem AWb:B2 ([1,0,4,0,0,0,1,0,1,0,2,0,2,0,0,0,3,0,2,2,0,1,0,1,0,0]:List Int) ([3,0,2,3,0,3,0,0,4,0,0,0,0]:List Int)=([1,0,4,0,0,0,1,0,1,0,2,0,2,0,0,0,3,0,2,2,0,1,0,1,0,0,3,0,2,3,0,3,0,0,4,0,0,0,0]:List Int):=rfl
theorem AZc:GY ([1,0,4,0,0,0,1,0,1,0,2,0,2,0,0,0,3,0,2,2,0,1,0,1,0,0,3,0,2,3,0,3,0,0,4,0,0,0,0],())=some ([(1,[(0,1,()),(1,2,()),(2,0,()),(3,2,())],[],()),(2,[(1,0,())],[],()),(3,[],[(3,3,0,()),(4,0,0,())],())],39,0,()):=CE (fun i=>@GY i) (by kernel_rfl)
theorem AZb:DN (((5,[],()),0,0,()),(1,[(0,1,()),(1,2,()),(2,0,()),(3,2,())],[],()),(8,3,(2,3,[[0,1],[1,0],[2,0]],()),()),())=some (((5,[(0,1,0,true,()),(0,2,0,true,()),(1,2,0,false,()),(2,3,0,true,())],()),1,16,()),(0,4,[],()),()):=CE (fun i=>@DN i) (by kernel_rfl)
theorem AZa:DN (((5,[(0,1,0,true,()),(0,2,0,true,()),(1,2,0,false,()),(2,3,0,true,())],()),1,16,()),(2,[(1,0,())],[],()),(8,3,(2,3,[[0,1],[1,0],[2,0]],()),()),())=some (((5,[(0,2,0,true,()),(1,2,0,true,()),(2,3,0,true,())],()),2,28,()),(0,1,[],()),()):=CE (fun i=>@DN i) (by kernel_rfl)
theorem AZZ:DN (((5,[(0,2,0,true,()),(1,2,0,true,()),(2,3,0,true,())],()),2,28,()),(3,[],[(3,3,0,()),(4,0,0,())],()),(8,3,(2,3,[[0,1],[1,0],[2,0]],()),()),())=some (((5,[(0,2,0,true,()),(1,2,0,true,()),(2,3,0,true,())],()),3,29,()),(0,0,[4,2],()),()):=CE (fun i=>@DN i) (by kernel_rfl)
theorem AZd:Rn (8,3,(2,3,[[0,1],[1,0],[2,0]],()),()) ((5,[],()),0,0,()) [(1,[(0,1,()),(1,2,()),(2,0,()),(3,2,())],[],()),(2,[(1,0,())],[],()),(3,[],[(3,3,0,()),(4,0,0,())],())] ((5,[(0,2,0,true,()),(1,2,0,true,()),(2,3,0,true,())],()),3,29,()) [(0,4,[],()),(0,1,[],()),(0,0,[4,2],())]:=.cons AZb (.cons AZa (.cons AZZ (.nil _)))
theorem AZe:Hk (((5,[],()),0,0,()),())=some (true,()):=CE (fun i=>@Hk i) (by kernel_rfl)
theorem ALH:ABd (((5,[],()),0,0,()),[1,0,4,0,0,0,1,0,1,0,2,0,2,0,0,0,3,0,2,2,0,1,0,1,0,0,3,0,2,3,0,3,0,0,4,0,0,0,0],(8,3,(2,3,[[0,1],[1,0],[2,0]],()),()),())=some (((5,[(0,2,0,true,()),(1,2,0,true,()),(2,3,0,true,())],()),3,29,()),[(0,4,[],()),(0,1,[],()),(0,0,[4,2],())],0,()):=AZd.run AZe AZc (AbP rfl) (AbP rfl)
theorem AV2:oP (([(0,4,[],()),(0,1,[],()),(0,0,[4,2],())]:List (Int×Int×(List Int)×Unit)),())=some ([0,0,4,0,0,0,0,1,0,0,0,0,0,0,2,0,4,0,2],0,()):=CE (fun i=>@oP i) (by kernel_rfl)
theorem AWY:Zt (([0,0,4,0,0,0,0,1,0,0,0,0,0,0,2,0,4,0,2]:List Int),())=some (0,4,[],5,0,()):=CE (fun i=>@Zt i) (by kernel_rfl)
theorem AVu:Nt ((((5:Int),([(0,2,0,true,()),(1,2,0,true,()),(2,3,0,true,())]:List (Int×Int×Int×Bool×Unit)),()),(3:Int),(29:Int),()),([1,2,4,8]:List Int),())=some ([([0,7,16,1,12,2,18,3,22,15],[1,4,1,2,1,3,3,4,3,4],[[1],[2,3,5,7],[3],[4,5],[5],[6,6,6],[7,7,7],[8,8,8,9],[9,9,9],[0,1,1,1]],()),([4],[1],[[0]],())],0,()):=CE (fun i=>@Nt i) (by kernel_rfl)
theorem AWE{α:Type}(a b c:α):A2 [a,b,c]=3:=rfl
theorem AWF{α:Type}(a b:α):A2 [a,b]=2:=rfl
theorem AWK{α:Type}(a b:α):idx [a,b] (0:Int)=some a:=BA (n:=0) rfl
theorem AWN{α:Type}(a b z:α):A9 [a,b] 0 z=a:=rfl
theorem AWD:A2 ([0,7,16,1,12,2,18,3,22,15]:List Int)=10:=rfl
theorem AWQ:CY (10:Int)=true:=(J3 _).2 (by omega)
theorem AWI:ile 10 10=true:=by rw[BR];rfl
theorem AV4:Df (A4 (10:Int)) (0:Int)=([0,0,0,0,0,0,0,0,0,0]:List Int):=rfl
theorem AV3:Df (A4 (10:Int)) false=([false,false,false,false,false,false,false,false,false,false]:List Bool):=rfl
theorem AV0:m9 ((([0,7,16,1,12,2,18,3,22,15]:List Int),([1,4,1,2,1,3,3,4,3,4]:List Int),([[1],[2,3,5,7],[3],[4,5],[5],[6,6,6],[7,7,7],[8,8,8,9],[9,9,9],[0,1,1,1]]:List (List Int)),()),([0,0,0,0,0,0,0,0,0,0]:List Int),())=some ([[0],[0,0,0,0],[0],[0,0],[0],[0,0,0],[0,0,0],[0,0,0,0],[0,0,0],[0,0,0,0]],0,()):=CE (fun i=>@m9 i) (by kernel_rfl)
theorem AV6:nX ((([0,7,16,1,12,2,18,3,22,15]:List Int),([1,4,1,2,1,3,3,4,3,4]:List Int),([[1],[2,3,5,7],[3],[4,5],[5],[6,6,6],[7,7,7],[8,8,8,9],[9,9,9],[0,1,1,1]]:List (List Int)),()),([false,false,false,false,false,false,false,false,false,false]:List Bool),())=some ([[0],[0,0,0,0],[0],[0,0],[0],[0,0,0],[0,0,0],[0,0,0,0],[0,0,0],[0,0,0,0]],0,()):=CE (fun i=>@nX i) (by kernel_rfl)
theorem AVx:mf ((([0,7,16,1,12,2,18,3,22,15]:List Int),([1,4,1,2,1,3,3,4,3,4]:List Int),([[1],[2,3,5,7],[3],[4,5],[5],[6,6,6],[7,7,7],[8,8,8,9],[9,9,9],[0,1,1,1]]:List (List Int)),()),([[0],[0,0,0,0],[0],[0,0],[0],[0,0,0],[0,0,0],[0,0,0,0],[0,0,0],[0,0,0,0]]:List (List Int)),())=some (0,0,()):=CE (fun i=>@mf i) (by kernel_rfl)
theorem AV8:Z2 ((([0,7,16,1,12,2,18,3,22,15]:List Int),([1,4,1,2,1,3,3,4,3,4]:List Int),([[1],[2,3,5,7],[3],[4,5],[5],[6,6,6],[7,7,7],[8,8,8,9],[9,9,9],[0,1,1,1]]:List (List Int)),()),([[0],[0,0,0,0],[0],[0,0],[0],[0,0,0],[0,0,0],[0,0,0,0],[0,0,0],[0,0,0,0]]:List (List Int)),(0:Int),(3:Int),())=some ([],0,()):=CE (fun i=>@Z2 i) (by kernel_rfl)
theorem AWP:LJ ((5,[(0,2,0,true,()),(1,2,0,true,()),(2,3,0,true,())],()),0,())=some ((5,[[0,7,16,1,12,2,18,3,22,15],[4]],()),0,()):=CE (fun i=>@LJ i) (by kernel_rfl)
theorem AWO:AEu (((5:Int),([[0,7,16,1,12,2,18,3,22,15],[4]]:List (List Int)),()),(3:Int),())=some (4,0,()):=CE (fun i=>@AEu i) (by kernel_rfl)
theorem AWT:Pg ((5,[(0,2,0,true,()),(1,2,0,true,()),(2,3,0,true,())],()),())=some ([(0,2,()),(1,2,()),(2,3,())],()):=CE (fun i=>@Pg i) (by kernel_rfl)
theorem AWd:Tu ((5:Int),([(0,2,()),(1,2,()),(2,3,())]:List (Int×Int×Unit)),())=some ([0,0,0,0,4],0,()):=CE (fun i=>@Tu i) (by kernel_rfl)
theorem AV7:nV ((3:Int),())=some ([0,0,0],[2,1,0],0,()):=CE (fun i=>@nV i) (by kernel_rfl)
theorem AWe:TH (3,1,2,())=some ([(0,3, -1,0,())],1,[false,false,false],[[0],[]],false,0,0,0,()):=CE (fun i=>@TH i) (by kernel_rfl)
theorem AVy:make ((4:Int),([3,1]:List Int),())=some (4,[0,0,0,0,0,0,0,0,0,1,0,0,0,3,0,0],[false,false,false,false,false,false,false,false,false,true,false,false,false,true,false,false],0,()):=CE (fun i=>@make i) (by kernel_rfl)
theorem AWZ:P2 ([(0,1,()),(1,2,()),(2,0,()),(3,2,())],(8,3,(2,3,[[0,1],[1,0],[2,0]],()),()),())=some ([(0,1,()),(0,2,()),(1,2,()),(2,3,())],13,0,()):=CE (fun i=>@P2 i) (by kernel_rfl)
theorem AWL:pC ((5,[(0,2,0,true,()),(1,2,0,true,()),(2,3,0,true,())],()),[(1,0,())],())=some (5,[(0,1,0,false,()),(0,2,0,true,()),(1,2,0,true,()),(2,3,0,true,())],1,0,()):=CE (fun i=>@pC i) (by kernel_rfl)
theorem AV9:j4 (((5:Int),([(0,1,0,false,()),(0,2,0,true,()),(1,2,0,true,()),(2,3,0,true,())]:List (Int×Int×Int×Bool×Unit)),()),([(1,0,())]:List (Int×Int×Unit)),())=some ((5,[(0,2,0,true,()),(1,2,0,true,()),(2,3,0,true,())],()),[(false,false,(0,0,()),0,())],0,()):=CE (fun i=>@j4 i) (by kernel_rfl)
theorem AWB:Ct (4,(2,3,[[0,1],[1,0],[2,0]],()),())=some ([2,3,0,1],3,0,()):=CE (fun i=>@Ct i) (by kernel_rfl)
theorem AWi:I7 ((5,[(0,2,0,true,()),(1,2,0,true,()),(2,3,0,true,())],()),(3,[],[(3,3,0,()),(4,0,0,())],()),(8,3,(2,3,[[0,1],[1,0],[2,0]],()),()),())=some (3,[],[(3,3,0,()),(4,0,0,())],0,0,()):=CE (fun i=>@I7 i) (by kernel_rfl)
theorem AWg:S0 (([0,0,0,0,4]:List Int),([0,0,0,0,4]:List Int),())=some (true,()):=CE (fun i=>@S0 i) (by kernel_rfl)
theorem AWA:A2 ([2,1,0]:List Int)=3:=rfl
theorem AWX:pS (((([(0,3, -1,0,())]:List (Int×Int×Int×Int×Unit)),(1:Int),([false,false,false]:List Bool),()),([[0],[]]:List (List Int)),false,(0:Int),(0:Int),()),())=some (5,()):=CE (fun i=>@pS i) (by kernel_rfl)
theorem AWG:keys (((4:Int),([0,0,0,0,0,0,0,0,0,1,0,0,0,3,0,0]:List Int),([false,false,false,false,false,false,false,false,false,true,false,false,false,true,false,false]:List Bool),()),())=some ([1,3],()):=CE (fun i=>@keys i) (by kernel_rfl)
theorem AWH:A2 ([1,3]:List Int)=2:=rfl
theorem AWa{α:Type}(a b c d:α):A2 [a,b,c,d]=4:=rfl
theorem AVz:Zr (((5:Int),([(0,2,0,true,()),(1,2,0,true,()),(2,3,0,true,())]:List (Int×Int×Int×Bool×Unit)),()),())=some (true,()):=CE (fun i=>@Zr i) (by kernel_rfl)
theorem AV1:de (((5:Int),([(0,2,0,true,()),(1,2,0,true,()),(2,3,0,true,())]:List (Int×Int×Int×Bool×Unit)),()),((5:Int),([(0,2,0,true,()),(1,2,0,true,()),(2,3,0,true,())]:List (Int×Int×Int×Bool×Unit)),()),())=some (true,()):=CE (fun i=>@de i) (by kernel_rfl)
theorem AWC:A2 ([2,3,0,1]:List Int)=4:=rfl
theorem AWJ:idx ([(0,4,[],()),(0,1,[],()),(0,0,[4,2],())]:List (Int×Int×(List Int)×Unit)) (2:Int)=some ((0:Int),(0:Int),([4,2]:List Int),()):=BA (n:=2) rfl
theorem AWM{α:Type}(a b c z:α):A9 [a,b,c] 2 z=c:=rfl
theorem AWf:S0 (([4,2]:List Int),([4,2]:List Int),())=some (true,()):=CE (fun i=>@S0 i) (by kernel_rfl)
theorem AVw:KI ((5,[[0,7,16,1,12,2,18,3,22,15],[4]],()),())=some (true,()):=CE (fun i=>@KI i) (by kernel_rfl)
theorem AVv:Zj ((([0,7,16,1,12,2,18,3,22,15]:List Int),([1,4,1,2,1,3,3,4,3,4]:List Int),([[1],[2,3,5,7],[3],[4,5],[5],[6,6,6],[7,7,7],[8,8,8,9],[9,9,9],[0,1,1,1]]:List (List Int)),()),())=some (true,()):=CE (fun i=>@Zj i) (by kernel_rfl)
theorem AV5:A2 ([]:List Int)=0:=rfl
theorem yJ:rk ()=some (true,()):=by
 rw[rj,mL]
 repeat first
  |simp only[ADN,AWh,AWS,AWc,AWR,AWb,ALH,AV2,AVu,AVy,AWG,AWE,AWF,AWK,AWN,AWD,AWQ,AWI,AV4,AV3,AV0,AVx,AWP,AWT,AWd,AWe,AWZ,AWL,AV9,AWB,AWi,AWg,AWA,AWH,AWa,AV1,AWC,AWJ,AWM,AWf,AVw,AVv,AV5,AWW,AWV,AWU,AV7,AWY,AV6,AV8,AWO,AWX,AVz,UQ,Aav,Adq,Aby]
  |rw[ADN]
  |rw[AWh]
  |rw[AWS]
  |rw[AWc]
  |rw[AWR]
  |rw[AWb]
  |rw[ALH]
  |rw[AV2]
  |rw[AVu]
  |rw[AVy]
  |rw[AWG]
  |rw[AWE]
  |rw[AWF]
  |rw[AWK]
  |rw[AWN]
  |rw[AWD]
  |rw[AWQ]
  |rw[AWI]
  |rw[AV4]
  |rw[AV3]
  |rw[AV0]
  |rw[AVx]
  |rw[AWP]
  |rw[AWT]
  |rw[AWd]
  |rw[AWe]
  |rw[AWZ]
  |rw[AWL]
  |rw[AV9]
  |rw[AWB]
  |rw[AWi]
  |rw[AWg]
  |rw[AWA]
  |rw[AWH]
  |rw[AWa]
  |rw[AV1]
  |rw[AWC]
  |rw[AWJ]
  |rw[AWM]
  |rw[AWf]
  |rw[AVw]
  |rw[AVv]
  |rw[AV5]
  |rw[AWW]
  |rw[AWV]
  |rw[AWU]
  |rw[AV7]
  |rw[AWY]
  |rw[AV6]
  |rw[AV8]
  |rw[AWO]
  |rw[AWX]
  |rw[AVz]
 try rfl
theorem bG(a:List Int)(l:List Edge){P:Prop}(b:wfD (.arr 2 (.int .u16)) a)(_:P):GA (a,l,())=some (true,()):=lz (ALy yJ) a l b trivial
end Go.Pev.Pl
end
section
namespace Go.Pev
open Go.Proofs
noncomputable section
def ARb:=Chn.g ⟨lU,qt⟩ ⟨37,0,0,0,0,none,AB8,[(.ret,BX)],A8,[(28,[[44],[44],[10],[],[8,248],[],[],[],[],[],[265]]),(24,[[2],[2],[],[0,196]]),(15,[[],[86],[86],[],[86],[86],[86],[],[],[104]]),(14,[[],[86],[86],[],[86],[86],[86],[],[],[94]]),(8,[[44],[],[],[13,20],[],[47,28],[],[48,50],[],[],[],[],[45]])],[]⟩ rk Tryz.func37 rj
def AR3:=Chn.g ARb ⟨9,0,0,0,0,none,AB8,[(.ret,BX)],A8,[(12,[[],[],[],[],[],[],[],[],[],[],[],[],[],[],[],[],[],[],[76],[],[40],[40],[68,70,72],[],[],[36],[18],[18],[],[],[],[],[28],[28],[],[],[],[],[],[28],[28],[],[],[],[],[88],[],[],[],[],[],[],[],[90,122],[18],[18],[],[],[],[18],[18]]),(8,[[56],[],[40],[40],[48,50,52],[],[],[],[],[],[57],[67]])],[]⟩ Tk Tryz.func9 sF
def rb:=Chn.g AR3 ⟨5,0,0,2,0,none,Ox,[(.ret,BX)],A8,[(5,[[12],[],[],[],[2,14],[],[],[],[],[],[31],[33]])],[]⟩ GA Tryz.func5 TT
end
end Go.Pev
end
section

end
