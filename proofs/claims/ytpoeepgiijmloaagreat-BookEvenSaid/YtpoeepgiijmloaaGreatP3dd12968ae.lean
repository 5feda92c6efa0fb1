/- A part of the proofs of this seat: CU26g CU26h CBW22v CU26i W33b CU26al CU26j CU26k CU26l CU26m EW22g EW22h EW22i EW22j EW22k EW22l EW22m EW22n EW22o EW22p EW22q EW22r EW22t EW22u EW22v CSTf EW22w MS27u MS27a MS27b MS27c MS27r MS27s MS27v MS27x U28g M28a M28b U28h W33j W33c W35t W34a W35b W35d W35e BU32a BU32b BU32c W37a GTP22 GTP. -/
import Derived.Test.YtpoeepgiijmloaaGreatPd47cc5a893
import Derived.KernelRfl
import Derived.Test.YtpoeepgiijmloaaGreatProg
set_option linter.unusedVariables false
set_option linter.unusedSimpArgs false
set_option linter.unusedSectionVars false
set_option maxRecDepth 100000
section
namespace Go.Pev.Pl
def nps(b:Nat):Nat:=(32+b-1)/b
theorem AIY{b p:Nat}(a:1<=b):p<nps b↔p*b<32:=by unfold nps;rw[Nat.lt_div_iff_mul_lt (by omega)];omega
theorem jn{b:Nat}:nps b<=47:=by unfold nps;rcases ATU b with h|h;grind;have c:=Nat.div_mul_le_self (32+b-1) b;generalize (32+b-1)/b=q at c;rcases AUH 32 q with a|a;have:33*b<=q*b:=ASw _ a;omega;omega
theorem yv{b:Nat}(a:1<=b):1<=nps b:=by have:=(AIY (p:=0) a).2 (by omega);omega
theorem nw{b:Int}(h:¬ (1<=b/\b<=16)):PB (b,())=some (0,()):=by rw[QV,PA];by_cases a:b<1;rw[BC,AR9 a];rw[BC,AR8 a,BC,AR9 (by omega)]
theorem Ns{b:Nat}(h:1<=b)(c:b<=16):PB ((b:Int),())=some ((nps b:Int),()):=by
 have:=jn (b:=b);rw[QV,PA];rw[BC,AR8 (by omega),BC,AR8 (by omega)];have e:w64 (w64 ((32:Int)+(b:Int))-1)=((32+b-1:Nat):Int):=by
  have a:w64 ((32:Int)+(b:Int))=((32+b:Nat):Int):=by rw[BG (by omega)];omega
  rw[a,BG (by omega)];omega
 simp only[e];rw[QY,jP,ASH (by omega),<- Int.ofNat_tdiv];unfold nps at this |-;generalize (32+b-1)/b=q at this |-;rw[YU (by omega)]
theorem iH{n:Nat}(h:n<18446744073709551616):IntKind.wrap .u64 (n:Int)=n:=IntWalk.u64_in _ (by omega)
theorem KI{n:Nat}(h:n<4294967296):IntKind.wrap .u32 (n:Int)=n:=IntWalk.u32_in _ (by omega)
theorem AIc{x b:Nat}(d:x<4294967296)(c:b<=16):IntKind.wrap .u32 (BitVec.ofInt (IntKind.bits .u32) (x:Int) &&& BitVec.ofInt (IntKind.bits .u32) ((2 ^ b-1:Nat):Int)).toNat=((x % 2 ^ b:Nat):Int):=by
 have f:2 ^ b<=2 ^ 16:=AUq (by omega) c;have g:(2:Nat) ^ 16=65536:=by decide
 have e:(BitVec.ofInt (IntKind.bits .u32) (x:Int) &&& BitVec.ofInt (IntKind.bits .u32) ((2 ^ b-1:Nat):Int)).toNat=x % 2 ^ b:=by rw[BitVec.toNat_and,AUR,AUR,AUf,AUf];have a:IntKind.bits .u32=32:=rfl;rw[a,ATu (by omega),ATu (by omega),Nat.and_two_pow_sub_one_eq_mod]
 rw[e];have:=Nat.mod_le x (2 ^ b);exact KI (by omega)
theorem tq{x p b:Nat}(g:x<4294967296)(c:1<=b)(a:b<=16)(d:p<nps b):UD ((x:Int),(p:Int),(b:Int),())=some (((x/2 ^ (p*b) % 2 ^ b:Nat):Int),()):=by
 have h:=(AIY c).1 d;have r:=jn (b:=b);rw[fG,Zb];have i:jE ((p:Int),(b:Int),())=some (true,()):=by rw[ez,ZR];rw[BM,AR9 (by omega)];simp only[Ns c a];rw[A2,AR9 d]
 have j:IntKind.wrap .u64 (w64 ((p:Int)*(b:Int)))=((p*b:Nat):Int):=by rw[<- AUz,BG (by omega),iH (by omega)]
 have k:IntKind.wrap .u64 (b:Int)=(b:Int):=iH (by omega);have l:shr? .u32 (x:Int) ((p*b:Nat):Int)=some ((x/2 ^ (p*b):Nat):Int):=by
  rw[ZA,tO,ASH (by omega)];have:min ((p*b:Nat):Int).toNat (IntKind.bits .u32)=p*b:=by show min _ 32=_;omega
  grind
 have m:2 ^ b<=2 ^ 16:=AUq (by omega) a;have e:(2:Nat) ^ 16=65536:=by decide
 have f:=AU0 b;have n:shl? .u32 (1:Int) (b:Int)=some ((2 ^ b:Nat):Int):=by
  rw[QN,il,ASH (by omega)];have:min (b:Int).toNat (IntKind.bits .u32)=b:=by show min _ 32=_;omega
  rw[this,Int.one_mul,show(2:Int) ^ b=((2 ^ b:Nat):Int) by simp,KI (by omega)]
 have o:IntKind.wrap .u32 (((2 ^ b:Nat):Int)-1)=((2 ^ b-1:Nat):Int):=by rw[show((2 ^ b:Nat):Int)-1=((2 ^ b-1:Nat):Int) by omega,KI (by omega)]
 have q:x/2 ^ (p*b)<4294967296:=Nat.lt_of_le_of_lt (AUy _ _) g;simp only[i,ASE,j,k,l,n,o];rw[AIc q a]
section
variable {ks l:List Nat} {b p:Nat} (hk:∀ x∈ks,x<4294967296) (hb:1<=b) (hb2:b<=16) (hp:p<nps b) (hn:ks.length<=1000) (hl:l.Perm (List.range ks.length))
include hk hb hb2 hp hn hl
def dgt(ks:List Nat)(b p:Nat)(i:Nat):Nat:=ks.getD i 0/2 ^ (p*b) % 2 ^ b
omit hl hn in
theorem lC{i:Nat}(hi:i<ks.length):∃ x:Nat,ks[i]? = some x/\UD ((x:Int),(p:Int),(b:Int),())=some ((dgt ks b p i:Int),())/\dgt ks b p i<2 ^ b:=by obtain⟨x,a⟩:=Ca hi;refine⟨x,a,?_,AUg _ (AU0 b)⟩;rw[tq (hk x (ASJ a)) hb hb2 hp];unfold dgt;grind
def xM(d:Nat->Nat)(l:List Nat):Nat->Int
 |0=>(0:Int)
 |v+1=>((bkt d l v).length:Int)
def Oc(d:Nat->Nat)(B:Nat)(l:List Nat):List Int:=(List.range (B+1)).map (xM d l)
omit hk hb hb2 hp hn hl in
theorem lU(d:Nat->Nat)(B:Nat)(l:List Nat){j:Nat}(h:j<B+1):(Oc d B l)[j]? = some (xM d l j):=by unfold Oc;grind
omit hk hb hb2 hp hn hl in
theorem b7(d:Nat->Nat)(B:Nat)(l:List Nat):(Oc d B l).length=B+1:=by simp[Oc]
omit hk hb hb2 hp hn hl in
theorem ri(d:Nat->Nat)(l:List Nat)(x v:Nat):bkt d (l++[x]) v=bkt d l v++(if d x==v then [x]else []):=by unfold bkt;grind
omit hk hb hb2 hp hn hl in
theorem AEi(d:Nat->Nat)(B:Nat)(l:List Nat)(x:Nat):Oc d B (l++[x])=(Oc d B l).set (d x+1) (((bkt d l (d x)).length+1:Nat):Int):=by
 apply ATB;intro j;rw[AUP,b7];by_cases a:j<B+1;rw[lU d B _ a];by_cases h:d x+1=j;subst h;rw[ASL rfl,ASL a];simp[xM,ri];rw[ASH h,lU d B _ a];cases j with
  |zero=>rfl
  |succ v=>have:¬ d x=v:=fun e=>h (by omega);simp[xM,ri,this]
 rw[ATf (l:=Oc d B (l++[x])) (by rw[b7];omega)];by_cases h:d x+1=j;grind;rw[ASH h];exact(ATf (by rw[b7];omega)).symm
def TS(d:Nat->Nat)(B:Nat)(l:List Nat)(k:Nat):List Int:=(List.range (B+1)).map fun v=>if v<=k then(FW d l v:Int)else xM d l v
omit hk hb hb2 hp hn hl in
theorem AFA(d:Nat->Nat)(B:Nat)(l:List Nat):TS d B l 0=Oc d B l:=by
 unfold TS Oc;refine ATa fun v _ => ?_;cases v with
  |zero=>rfl
  |succ v=>omega
omit hk hb hb2 hp hn hl in
theorem YO(d:Nat->Nat)(B:Nat)(l:List Nat)(k:Nat){v:Nat}(a:v<B+1):(TS d B l k)[v]? = some (if v<=k then(FW d l v:Int)else xM d l v):=by unfold TS;grind
omit hk hb hb2 hp hn hl in
theorem AFB(d:Nat->Nat)(B:Nat)(l:List Nat){k:Nat}(h:k<B):(TS d B l k)[k]? = some (FW d l k:Int)/\(TS d B l k)[k+1]? = some ((bkt d l k).length:Int)/\(TS d B l k).set (k+1) (FW d l (k+1):Int)=TS d B l (k+1):=by
 refine⟨by rw[YO d B l k (by omega),ASL (ASG _)],by rw[YO d B l k (by omega),ASH (by omega)];rfl,?_⟩;have a:∀ k,(TS d B l k).length=B+1:=fun k=>by simp[TS]
 apply ATB;intro j;rw[AUP,a];by_cases e:j<B+1;rw[YO d B l (k+1) e];by_cases c:k+1=j;grind;rw[ASH c,YO d B l k e];grind;grind
def jm(d:Nat->Nat)(B:Nat)(l:List Nat)(t:Nat):List Int:=(List.range (B+1)).map fun v=>((FW d l v+(bkt d (l.take t) v).length:Nat):Int)
omit hk hb hb2 hp hn hl in
theorem aA(d:Nat->Nat)(B:Nat)(l:List Nat)(t:Nat){v:Nat}(h:v<B+1):(jm d B l t)[v]? = some ((FW d l v+(bkt d (l.take t) v).length:Nat):Int):=by unfold jm;grind
omit hk hb hb2 hp hn hl in
theorem ACY(d:Nat->Nat)(B:Nat)(l:List Nat){t x:Nat}(h:l[t]? = some x):(jm d B l t).set (d x) ((FW d l (d x)+(bkt d (l.take t) (d x)).length+1:Nat):Int)=jm d B l (t+1):=by
 have a:∀ t,(jm d B l t).length=B+1:=fun t=>by simp[jm]
 apply ATB;intro j;rw[AUP];by_cases c:j<B+1;have hb:bkt d (l.take (t+1)) j=bkt d (l.take t) j++(if d x==j then [x]else []):=by rw[Cr h];unfold bkt;grind
 rw[aA d B l _ c,aA d B l _ c,hb];grind;grind
theorem AMd:rby (nI ks,nI l,(p:Int),(b:Int),())=some (nI (GH (dgt ks b p) (2 ^ b) l),()):=by
 have h16:2 ^ b<=2 ^ 16:=AUq (by omega) hb2;have T:(2:Nat) ^ 16=65536:=by decide
 have U:=AU0 b;have I:=hl.length_eq;rw[ASP]at I;generalize J:2 ^ b=B at *;have hd:∀ {t x:Nat},l[t]? = some x->x<ks.length:=fun h=>ASb.1 (hl.mem_iff.1 (ASJ h));have f:∀ i∈l,dgt ks b p i<B:=fun i hi=>by obtain⟨x,_,_,h⟩:=lC hk hb hb2 hp (ASb.1 (hl.mem_iff.1 hi));omega
 have m:∀ (K:List Nat) v,(bkt (dgt ks b p) K v).length<=K.length:=fun K v=>ATR _ _;have e:=W_ f;have A:∀ v,v<=B->FW (dgt ks b p) l v<=1000:=fun v hv=>by have L:=(bj (dgt ks b p) l v).length_eq;have V:=ATR (fun i=>decide (dgt ks b p i<v)) l;unfold FW;omega
 rw[AHC,AHD];have e1:IntKind.wrap .u64 (b:Int)=(b:Int):=iH (by omega);have e2:shl? .i64 (1:Int) (b:Int)=some (B:Int):=by
  rw[QN,il,ASH (by omega)];have:min (b:Int).toNat (IntKind.bits .i64)=b:=by show min _ 64=_;omega
  rw[this,Int.one_mul,show(2:Int) ^ b=((2 ^ b:Nat):Int) by simp,J,YU (by omega)]
 simp only[e1,e2];rw[A5 (by omega)];simp only[Fa (show B+1<=4294967296 by omega),Gj,A6,Ch]
 have W:=GP (step:=Zd) (fun t=>(nI ks,nI l,(p:Int),(b:Int),Oc (dgt ks b p) B (l.take t),nI l,(l.length:Int),(t:Int),())) l.length (.inl (nI ks,nI l,(p:Int),(b:Int),Oc (dgt ks b p) B l,())) (by omega)
  (fun t d=>by
   obtain⟨x,c⟩:=Ca d
   obtain⟨y,s,n,o⟩:=lC hk hb hb2 hp (hd c)
   rw[J]at o
   have u:(Oc (dgt ks b p) B (l.take t))[dgt ks b p x+1]? = some ((bkt (dgt ks b p) (l.take t) (dgt ks b p x)).length:Int):=lU _ _ _ (by omega)
   have q:=m (l.take t) (dgt ks b p x)
   rw[ASp]at q
   have hw:IntKind.wrap .u32 ((dgt ks b p x:Int)+1)=((dgt ks b p x+1:Nat):Int):=by
    rw[show(dgt ks b p x:Int)+1=((dgt ks b p x+1:Nat):Int) by omega,KI (by omega)]
   rw[Zd,A2,AR9 d]
   simp only[A' (Ew c),A' (Ew s),n,hw,A' u,Bm u,DX]
   rw[A5 (by omega),A5 (by omega),Cr c,AEi])
  (by rw[Zd,A2,AR8 (by omega),ASc])
 have z0:Oc (dgt ks b p) B (l.take 0)=List.replicate (B+1) (0:Int):=by rw[AUl];unfold Oc;apply AUV (by simp);intro i _ _;cases i<;>simp[bkt,xM]
 rw[z0]at W;have M:A9 Zd many (nI ks,nI l,(p:Int),(b:Int),List.replicate (B+1) (0:Int),nI l,(l.length:Int),(0:Int),())=_:=W;simp only[M]
 have X:=GP (step:=Zc) (fun k=>(nI ks,nI l,(p:Int),(b:Int),TS (dgt ks b p) B l k,(B:Int),(k:Int),())) B (.inl (nI ks,nI l,(p:Int),(b:Int),TS (dgt ks b p) B l B,())) (by omega)
  (fun k C=>by
   obtain⟨Y,Z,g3⟩:=AFB (dgt ks b p) B l C
   have hb1:=m l k
   have hb2:=A k (by omega)
   rw[Zc,A2,AR9 C]
   rw[A5 (by omega)]
   simp only[A' Y,A' Z,Bm Y,Bm Z,DX]
   rw[wrap_add (by omega),<- g3,rb,Nat.add_comm (bkt (dgt ks b p) l k).length])
  (by rw[Zc,A2,AR8 (by omega)])
 rw[AFA]at X;have N:A9 Zc many (nI ks,nI l,(p:Int),(b:Int),Oc (dgt ks b p) B l,(B:Int),(0:Int),())=_:=X;have O:((Oc (dgt ks b p) B l).length:Int)-1=(B:Int):=by simp[Oc]
 rw[O,BG (by omega)];simp only[N,Ch,Fa (show l.length<=4294967296 by omega),Gj];have D:l.Nodup:=hl.nodup_iff.2 ATY;have r:∀ t,t<l.length->(GH (dgt ks b p) B l)[Pm (dgt ks b p) l t]? = some (l.getD t 0):=fun t d=>by obtain⟨x,c⟩:=Ca d;rw[qy f c,ASY,c];rfl
 have E:∀ i∈List.range l.length,∀ j∈List.range l.length,Pm (dgt ks b p) l i=Pm (dgt ks b p) l j->i=j:=fun i hi j w he=>by have hi:=ASb.1 hi;have w:=ASb.1 w;have L:=r i hi;have V:=r j w;rw[he,V]at L;obtain⟨x,c⟩:=Ca hi;obtain⟨y,s⟩:=Ca w;have P:=Option.some.inj L;rw[ASY,ASY,c,s]at P;simp only[ATA]at P;subst P;exact(AUj (Ex c) D).1 (c.trans s.symm)
 have q2:=GP (step:=jL) (fun t=>(nI ks,(p:Int),(b:Int),jm (dgt ks b p) B l t,(List.range t).foldl (fun a i=>a.set (Pm (dgt ks b p) l i) ((l.getD i 0:Nat):Int)) (List.replicate l.length (0:Int)),nI l,(l.length:Int),(t:Int),())) l.length (.inl (nI (GH (dgt ks b p) B l),())) (by omega)
  (fun t d=>by
   obtain⟨x,c⟩:=Ca d
   obtain⟨y,s,n,o⟩:=lC hk hb hb2 hp (hd c)
   rw[J]at o
   have hg:l.getD t 0=x:=by grind
   have u:=aA (dgt ks b p) B l t (v:=dgt ks b p x) (by omega)
   have q:=m (l.take t) (dgt ks b p x)
   rw[ASp]at q
   have hs1:=A (dgt ks b p x) (by omega)
   have F:FW (dgt ks b p) l (dgt ks b p x)+(bkt (dgt ks b p) (l.take t) (dgt ks b p x)).length=Pm (dgt ks b p) l t:=by unfold Pm;rw[hg]
   have hplt:Pm (dgt ks b p) l t<l.length:=by
    have:=Ex (r t d)
    rw[e.length_eq]at this;omega
   obtain⟨z,hz⟩:=Ca (xs:=(List.range t).foldl (fun a i=>a.set (Pm (dgt ks b p) l i) ((l.getD i 0:Nat):Int)) (List.replicate l.length (0:Int))) (i:=Pm (dgt ks b p) l t) (by
    rw[Ip (Pm (dgt ks b p) l) (fun i=>((l.getD i 0:Nat):Int)),ASy];omega)
   rw[jL,A2,AR9 d]
   simp only[A' (Ew c),A' (Ew s),n,A' u,Bm u]
   rw[F]at u |-
   simp only[A' hz,DX]
   rw[A5 (by omega),A5 (by omega),<- ACY (dgt ks b p) B l c,F,ASi,ATN]
   grind)
  (by
   rw[jL,A2,AR8 (by omega)]
   have G:=qQ (g:=Pm (dgt ks b p) l) (v:=fun i=>((l.getD i 0:Nat):Int)) (List.range l.length) (List.replicate l.length (0:Int)) ATY E
   have:(List.range l.length).foldl (fun a i=>a.set (Pm (dgt ks b p) l i) ((l.getD i 0:Nat):Int)) (List.replicate l.length (0:Int))=nI (GH (dgt ks b p) B l):=by
    apply ATB
    intro j
    by_cases w:j<l.length
    ·obtain⟨x,c⟩:=Ca (xs:=GH (dgt ks b p) B l) (i:=j) (by rw[e.length_eq];exact w)
     obtain⟨t,d⟩:=AUE (e.mem_iff.1 (ASJ c))
     have Q:=Ex d
     have H:=qy f d
     have R:(GH (dgt ks b p) B l).Nodup:=e.nodup_iff.2 D
     have S:Pm (dgt ks b p) l t=j:=(AUj (Ex H) R).1 (H.trans c.symm)
     have:=G t (ASb.2 Q) (by grind)
     rw[S]at this
     rw[this,Ew c,ASY,d];rfl
    ·rw[ATf (by rw[Ip (Pm (dgt ks b p) l) (fun i=>((l.getD i 0:Nat):Int)),ASy];omega),ATf (by rw[Ch,e.length_eq];omega)]
   rw[this])
 have z2:TS (dgt ks b p) B l B=jm (dgt ks b p) B l 0:=by unfold TS jm;refine ATa fun v hv => ?_;grind
 grind
end
abbrev APc:=Int×Int×List (List Int)×Unit
abbrev NM:=Int×Int×APc×Unit
def Kl(w:NM):Prop:=1<=w.1/\w.1<=16/\1<=w.2.1/\w.2.1<=100/\Ek w.2.2.1
def XV(a:List Nat)(i:Nat):Nat:=a.getD i 0
def AIS(a:List Nat)(b:Nat):List Nat:=ZU (XV a) b (List.range a.length) (nps b)
def srt(a:List Nat)(b:Nat):List Nat:=(AIS a b).map (XV a)
theorem fQ(a:List Nat)(b:Nat):(AIS a b).Perm (List.range a.length):=(fA _ _ _ _).1
theorem Ng(a:List Nat)(b:Nat):(srt a b).Perm a:=by
 have h:=(fQ a b).map (XV a);have:(List.range a.length).map (XV a)=a:=by apply AUV (by simp);intro i d c;simp[XV,ASI c]
 rw[this]at h;exact h
section
variable {ks:List Nat} {b c:Nat} {p:APc} (hk:∀ x∈ks,x<4294967296) (hn:ks.length<=1000)
theorem ABM(f:1<=b)(e:b<=16)(r:1<=c)(g:c<=100)(hk:∀ x∈ks,x<4294967296)(hn:ks.length<=1000){U:List Nat}{k:Nat}(h:k<=40000)(s:U.Perm (List.range (nbl ks.length c)))(t:C4 ((nbl ks.length c:Int),p,())=some (nI U,(k:Int),0,())):
  fB (nI ks,(b:Int),(c:Int),p,())=some (nI (AIS ks b),((2*k*nps b:Nat):Int),0,()):=by
 have v:ieq (0:Int) 0=true:=by rw[BB];rfl
 have j:=jn (b:=b);have n:=yv f;have w:=eW (xs:=nI ks) (b:=c) (by rw[Ch];exact hn) r g (p:=p) (U:=U) (k:=k) h (by rw[Ch];exact s) (by rw[Ch];exact t);obtain⟨a,d,q,u⟩:=p;rw[ZT,Xy];simp only[Ns f e];rw[BB,AR8 (by omega)];simp only[w,v,ASE,A6,Ch]
 have y:=GP (step:=Nr) (fun i=>(nI ks,(b:Int),(nps b:Int),((2*k:Nat):Int),nI (List.range i),(ks.length:Int),(i:Int),())) ks.length (.inl (nI ks,(b:Int),(nps b:Int),((2*k:Nat):Int),nI (List.range ks.length),())) (by omega)
  (fun i hi=>by
   rw[Nr,A2,AR9 hi,A6,Ch,ASP,A6]
   simp only[ASK,ASV]
   rw[CC (by omega),A5 (by omega)]
   simp only[Ej]
   rw[ASi]
   unfold nI
   simp)
  (by rw[Nr,A2,AR8 (by omega)])
 have l:A9 Nr many (nI ks,(b:Int),(nps b:Int),((2*k:Nat):Int),([]:List Int),(ks.length:Int),(0:Int),())=_:=y;simp only[l]
 have z:=GP (step:=Nq) (fun i=>(nI ks,(b:Int),(nps b:Int),((2*k:Nat):Int),nI (ZU (XV ks) b (List.range ks.length) i),(nps b:Int),(i:Int),())) (nps b) (.inl ((nps b:Int),((2*k:Nat):Int),nI (AIS ks b),())) (by omega)
  (fun i hi=>by
   have A:=(fA (XV ks) b (List.range ks.length) i).1
   rw[Nq,A2,AR9 hi]
   simp only[AMd hk f e hi hn A]
   rw[A5 (by omega)]
   rfl)
  (by rw[Nq,A2,AR8 (by omega)];rfl)
 have m:A9 Nq many (nI ks,(b:Int),(nps b:Int),((2*k:Nat):Int),nI (List.range ks.length),(nps b:Int),(0:Int),())=_:=z;simp only[m];have o:2*k*nps b<=80000*47:=ATz (by omega) j;rw[<- AUz,BG (by omega)]
theorem ABN{xs:List Int}{w:NM}(h:¬ (Kl w/\xs.length<=1000)):fB (xs,w.1,w.2.1,w.2.2.1,())=some ([],0,1,()):=by
 obtain⟨b,c,⟨a,d,q,u⟩,v⟩:=w;rw[ZT,Xy];by_cases f:1<=b/\b<=16;obtain⟨b,rfl⟩:=ASD (show 0<=b by omega);have g:=yv (b:=b) (by omega);have i:ieq (1:Int) 0=false:=by rw[BB];rfl
 have j:=AAv (xs:=xs) (b:=c) (p:=(a,d,q,u)) (fun e=>h ⟨⟨f.1,f.2,e.1,e.2.1,e.2.2.2⟩,e.2.2.1⟩);simp only[Ns (b:=b) (by omega) (by omega)];grind;simp only[nw f];rw[BB,AR9 rfl]
theorem ABQ{l:List Nat}{n:Nat}(g:l.Perm (List.range n))(hn:n<=1000):yN (nI l,(n:Int),())=some (true,()):=by
 have a:=g.length_eq;rw[ASP]at a;have h:l.Nodup:=g.nodup_iff.2 ATY;rw[n6,jG]
 have q:=GP (step:=Nt) (fun i=>(nI l,(n:Int),M1 (l.take i),nI l,(l.length:Int),(i:Int),())) l.length (.inr (.inl (nI l,(n:Int),()))) (by omega)
  (fun i hi=>by
   obtain⟨x,e⟩:=Ca hi
   have r:x<n:=ASb.1 (g.mem_iff.1 (ASJ e))
   have d:x∉l.take i:=by
    intro s
    obtain⟨j,f⟩:=AUE s
    rw[AUb]at f
    split at f
    ·have:=(AUj (Ex f) h).1 (f.trans e.symm)
     omega
    grind
   obtain⟨o,t⟩:=sE d
   have k:w64 (((A7 (M1 (l.take i)) (x:Int)).getD (0:Int))+(1:Int))=1:=by
    rw[t];exact BG (by decide)
   have m:A7 (M1 (l.take i++[x])) (x:Int)=some 1:=by
    rw[<- o,FG,ASL rfl]
   rw[Nt,A2,AR9 hi]
   simp only[A' (Ew e)]
   rw[BC,AR8 (by omega),Dq,AR8 (by omega)]
   simp only[k,o,m,ATA]
   rw[BC,AR8 (by decide),A5 (by omega),Cr e])
  (by rw[Nt,A2,AR8 (by omega)])
 have u:A9 Nt many (nI l,(n:Int),([]:List (Int×Int)),nI l,(l.length:Int),(0:Int),())=_:=q;simp only[A6,Ch,u];rw[kG,AR9 a]
theorem AIq{i:Nat}(h:i<ks.length):ks[i]? = some (XV ks i):=by unfold XV;grind
theorem nv{l:List Nat}(a:l.Perm (List.range ks.length))(hn:ks.length<=1000):R5 (nI ks,nI l,())=some (nI (l.map (XV ks)),true,()):=by
 have d:=a.length_eq;rw[ASP]at d;rw[ZS,T_];simp only[A6,Ch,ABQ a hn,ASE]
 have q:=GP (step:=JR) (fun i=>(nI ks,nI ((l.take i).map (XV ks)),nI l,(l.length:Int),(i:Int),())) l.length (.inl (nI (l.map (XV ks)),())) (by omega)
  (fun i hi=>by
   obtain⟨x,e⟩:=Ca hi
   have f:x<ks.length:=ASb.1 (a.mem_iff.1 (ASJ e))
   rw[JR,A2,AR9 hi]
   simp only[A' (Ew e),A' (Ew (AIq f)),A6,Ch,ASZ,ASp,ASK,ASV]
   rw[CC (by omega),A5 (by omega),Cr e]
   simp only[Ej]
   unfold nI
   simp)
  (by rw[JR,A2,AR8 (by omega),ASc])
 have g:A9 JR many (nI ks,([]:List Int),nI l,(l.length:Int),(0:Int),())=_:=q;grind
theorem qs(s:List Int)(k:s.length<=1000000):YL (s,())=some (Q_ s,()):=by
 rw[bX,VZ]
 have q:=GP (step:=Jv) (fun i=>(s,NK s.length (fun i=>decide (i=0)||decide (s.getD (i-1) 0≠s.getD i 0)) false i,s,(s.length:Int),(i:Int),())) s.length (.inl (Q_ s,())) (by omega)
  (fun i hi=>by
   obtain⟨x,a⟩:=Ca hi
   obtain⟨y,d⟩:=Ca (xs:=NK s.length (fun i=>decide (i=0)||decide (s.getD (i-1) 0≠s.getD i 0)) false i) (i:=i) (by rw[N2];exact hi)
   rw[Jv,A2,AR9 hi]
   simp only[A' a,A' d,DX]
   rw[A5 (by omega),<- Z6,BB]
   by_cases l:i=0
   ·grind
   ·obtain⟨j,rfl⟩:∃ j,i=j+1:=⟨i-1,by omega⟩
    obtain⟨z,e⟩:=Ca (xs:=s) (i:=j) (by omega)
    rw[AR8 (by omega),show((j+1:Nat):Int)-1=(j:Int) by omega,BG (by omega)]
    simp only[A' e]
    have f:s.getD j 0=z:=by grind
    have g:s.getD (j+1) 0=x:=by grind
    have:(!(ieq z x))=(decide (j+1=0)||decide (s.getD (j+1-1) 0≠s.getD (j+1) 0)):=by
     rw[Nat.add_sub_cancel,f,g,BB];simp
    rw[this])
  (by rw[Jv,A2,AR8 (by omega),Z8];rfl)
 rw[UQ]at q;have h:A9 Jv many (s,List.replicate s.length false,s,(s.length:Int),(0:Int),())=_:=q;simp only[A6,Fa (show s.length<=4294967296 by omega),Gj,h]
def Z_(s:List Int):List Int:=(kept (Q_ s) s.length).map fun i=>s.getD i 0
theorem AJc(s:List Int):(Q_ s).length=s.length:=by simp[Q_]
theorem qO{s:List Int}{i:Nat}(h:i<s.length):(Q_ s).getD i false=(decide (i=0)||decide (s.getD (i-1) 0≠s.getD i 0)):=by unfold Q_;grind
theorem aE{s:List Int}{x:Int}:x∈Z_ s↔x∈s:=by
 unfold Z_;rw[ASS];constructor;rintro⟨i,hi,rfl⟩;have:=ASb.1 (ASa.1 hi).1;grind;intro h;have d:∀ i,i<s.length->s.getD i 0=x->∃ j,j∈kept (Q_ s) s.length/\s.getD j 0=x:=by
  intro i;induction i with
   |zero=>intro hi a;exact⟨0,ASa.2 ⟨ASb.2 hi,by rw[qO hi];rfl⟩,a⟩
   |succ i f=>intro hi a;by_cases e:s.getD i 0=x;grind;refine⟨i+1,ASa.2 ⟨ASb.2 hi,?_⟩,a⟩;rw[qO hi,Nat.add_sub_cancel,a,AR9 e];simp
 obtain⟨i,hi⟩:=AUE h;grind
theorem qo(C:1<=b)(n:b<=16)(v:1<=c)(g:c<=100)(hk:∀ x∈ks,x<4294967296)(hn:ks.length<=1000){U V:List Nat}{k m:Nat}(h:k<=40000)(o:m<=40000)(D:U.Perm (List.range (nbl ks.length c)))(E:C4 ((nbl ks.length c:Int),p,())=some (nI U,(k:Int),0,()))
  (R:V.Perm (List.range ks.length)) (F:C4 ((ks.length:Int),p,())=some (nI V,(m:Int),0,())) :
  ∃ T,S9 (nI ks,((b:Int),(c:Int),p,()),())=some (Z_ (nI (srt ks b)),T,((2*k*nps b+(2*k+m):Nat):Int),0,()):=by
 have G:ieq (0:Int) 0=true:=by rw[BB];rfl
 have r:=jn (b:=b);have w:2*k*nps b<=80000*47:=ATz (by omega) r;have e:(srt ks b).length=ks.length:=(Ng ks b).length_eq;have j:=ABM (p:=p) C n v g hk hn h D E;have H:=nv (fQ ks b) hn;have s:R5 (nI ks,nI (AIS ks b),())=some (nI (srt ks b),true,()):=H;have I:=qs (nI (srt ks b)) (by rw[Ch,e];omega);have J:(Q_ (nI (srt ks b))).length=ks.length:=by rw[AJc,Ch,e]
 have K:=tx (keep:=Q_ (nI (srt ks b))) (b:=c) (p:=p) (U:=U) (V:=V) (k:=k) (m:=m) (by omega) v g h o (by grind) (by grind) (by grind) (by grind);obtain⟨a,d,q,u⟩:=p;rw[RE,PU];simp only[j,G,ASE,s,I,K];generalize z:kept (Q_ (nI (srt ks b))) (Q_ (nI (srt ks b))).length=P;generalize L:nI (srt ks b)=S at *;have M:S.length=ks.length:=by rw[<- L,Ch,e]
 have N:P.length<=1000:=by rw[<- z];have:=X' (Q_ S) (Q_ S).length;omega
 have t:∀ {i x:Nat},P[i]? = some x->S[x]? = some (S.getD x 0)/\x<=1000:=fun {i x} f=>by have:=ASJ f;rw[<- z]at this;have:=ASb.1 (ASa.1 this).1;grind
 let l:Nat->Int:=fun i=>if i+1<P.length then w64 ((P.getD (i+1) 0:Nat)-(P.getD i 0:Nat):Int)else w64 ((S.length:Int)-(P.getD i 0:Nat))
 have Q:=GP (step:=Ju) (fun i=>(((2*k*nps b:Nat):Int),S,nI P,((2*k+m:Nat):Int),(P.take i).map (fun i=>S.getD i 0),(List.range i).map l,(P.length:Int),(i:Int),())) P.length
  (.inl (((2*k*nps b:Nat):Int),((2*k+m:Nat):Int),P.map (fun i=>S.getD i 0),(List.range P.length).map l,())) (by omega)
  (fun i hi=>by
   obtain⟨x,f⟩:=Ca hi
   obtain⟨A,W⟩:=t f
   have X:P.getD i 0=x:=by grind
   rw[Ju,A2,AR9 hi]
   simp only[A' (Ew f),Bm (Ew f),A6,Ch]
   rw[A5 (by omega),A2]
   simp only[A' A,Bm A,ASZ,ASp,ASP,ASK,ASV]
   rw[CC (by omega),CC (by omega)]
   simp only[Ej]
   rw[Cr f,ASi,ASz,ASz]
   by_cases j:i+1<P.length
   ·obtain⟨y,B⟩:=Ca j
    have O:P.getD (i+1) 0=y:=by grind
    have:l i=w64 ((y:Int)-(x:Int)):=by
     grind
    simp only[AR9 j,A' (Ew B),Bm (Ew B),ASQ,ATk,this]
   grind)
  (by rw[Ju,A2,AR8 (by omega),ASc])
 have Q':A9 Ju many (((2*k*nps b:Nat):Int),S,nI P,((2*k+m:Nat):Int),([]:List Int),([]:List Int),(P.length:Int),(0:Int),())=_:=Q;refine⟨(List.range P.length).map l,?_⟩;simp only[Ch,A6,Q'];rw[wrap_add (by omega)];have:Z_ S=P.map fun i=>S.getD i 0:=by unfold Z_;grind
 rw[this]
end
end Go.Pev.Pl
end
section
namespace Go.Pev.Pl.SE
open Go.Sort
theorem M5{x y:Int×Int×Unit}(_:ok x)(_:ok y):∃ c,Bj (x,y,())=some (c,())/\ilt c (0:Int)=lt x y:=by rw[OK,Mo];simp only[Oa,or_val,BC,lt];grind
noncomputable def S:SG.SP (Int×Int×Unit) Int:=⟨((0:Int),((0:Int),())),Bj,tLt,ok,okz,Qk,lt,swo,fun a b=>M5 a b⟩
theorem FX(xs:List (Int×Int×Unit))(h:xs.length<4294967296)(a:∀ x∈xs,ok x):∃ ys,yI (xs,())=some (ys,())/\ys.Perm xs/\ys.Pairwise fun x y=>lt y x=false:=SG.FX S xs h a
end Go.Pev.Pl.SE
namespace Go.Pev.Pl
open Tok
section
variable {α β:Type} [DecidableEq α]
end
theorem po(l:List Edge)(n:Int)(ts:List Tie)(b:List Edge)(j:b.length<1073741824):
  ∃ m:List (Edge×Int),A9 PQ many (l,n,ts,([]:List (Edge×Int)),b,A4 b,(0:Int),())=some (.inl (l,n,ts,m,()))/\∀ k,(A7 m k).getD 0=if k∈b then 1 else 0:=by
 have e:=DL (step:=PQ) (fun i (a:List (Edge×Int))=>(l,n,ts,a,b,A4 b,(i:Int),())) b (fun x a=>.inl (BF a x (1:Int))) (fun a=>.inl (l,n,ts,a,())) (fun i a=>True) (by omega)
  (fun i x a hi f _=>by
   refine⟨fun o c => ?_,fun r c=>(by cases c)⟩
   cases c
   refine⟨?_,trivial⟩
   rw[PQ,A6,A2,AR9 hi]
   simp only[A' f,Bm f]
   rw[A5 (by omega)])
  (fun a _=>by rw[PQ,A6,A2,AR8 (by omega)]) [] trivial
 have g:A9 PQ many (l,n,ts,([]:List (Edge×Int)),b,A4 b,(0:Int),())=_:=e;rw[B2 (fun(x:Edge) (a:List (Edge×Int))=>BF a x (1:Int))]at g;refine⟨_,g,?_⟩;have d:∀ (xs:List Edge) (a:List (Edge×Int)) (k:Edge),(A7 (xs.foldl (fun a x=>BF a x (1:Int)) a) k).getD 0=if k∈xs then 1 else(A7 a k).getD 0:=by
  intro xs;induction xs with
   |nil=>simp
   |cons x xs h=>intro a k;rw[AS2,h,Pw];grind
 intro k;rw[d];rfl
theorem ADk(n:Int)(ts:List Tie)(m:List (Edge×Int))(l:List Edge)(s:l.length<1073741824):
  A9 PO many (n,ts,m,([]:List Edge),l,A4 l,(0:Int),())=some (walk (XU n) (fun a=>.inr (.inl (a.2,()))) l (m,[])):=by
 have e:=DL (step:=PO) (fun i (a:List (Edge×Int)×List Edge)=>(n,ts,a.1,a.2,l,A4 l,(i:Int),())) l (XU n) (fun a=>.inr (.inl (a.2,()))) (fun i a=>a.2.length<=i) (by omega)
  (fun i x a hi o t=>by
   have step:PO (n,ts,a.1,a.2,l,A4 l,(i:Int),())=match XU n x a with
     |.inl g=>some (.inl (n,ts,g.1,g.2,l,A4 l,((i+1:Nat):Int),()))
     |.inr r=>some (.inr r):=by
    rw[PO,A6,A2,AR9 hi]
    simp only[A' o,KY,Mf]
    rw[BC,BM,BC,BB,A5 (by omega),CC (by simp only[A6,ASK,ASV];omega)]
    unfold XU
    have b:(nrm x).1=min x.1 x.2.1:=rfl
    have c:(nrm x).2.1=max x.1 x.2.1:=rfl
    have d:(min x.1 x.2.1,max x.1 x.2.1,())=nrm x:=rfl
    rw[d,<- b,<- c]
    by_cases p:(nrm x).1<0
    ·grind
    rw[AR8 p]
    by_cases q:n<=(nrm x).2.1
    ·grind
    rw[AR8 q,ASH (fun h=>by omega)]
    by_cases j:(nrm x).1<(nrm x).2.1
    ·rw[AR9 j]
     by_cases k:(A7 a.1 (nrm x)).getD 0=0
     ·rw[AR9 k,ASL ⟨j,k⟩]
      rfl
     grind
    grind
   refine⟨fun u f => ?_,fun r f => ?_⟩
   ·rw[f]at step
    refine⟨step,?_⟩
    unfold XU at f
    grind
   grind)
  (fun a _=>by rw[PO,A6,A2,AR8 (by omega)]) (m,[]) (ASG _)
 exact e
theorem qM{N:Nat}(o:1<=N)(p:N<=64)(ts:List Tie)(s:ts.length<=400)(l:List Edge)(t:l.length<1073741824)(q:Cu (((N:Int),(ts,())),())=some (true,())):
  AJW (((N:Int),(ts,())),l,())=some (if ∀ e∈l,In (N:Int) e.1/\In (N:Int) e.2.1 then(Bo N ts l,0,())else([],10,())):=by
 obtain⟨m,u,F⟩:=po l (N:Int) ts (ts.map ed) (by grind);rw[zS,wA];simp only[q,ASE,Qq (N:Int) ts s q,u,ADk (N:Int) ts m l t];have d:(∀ x∈l,0<=(nrm x).1/\(nrm x).2.1<(N:Int))↔∀ e∈l,In (N:Int) e.1/\In (N:Int) e.2.1:=by constructor;intro h e n;have:=h e n;simp only[nrm]at this;exact⟨fi o p (by omega),fi o p (by omega)⟩;intro h e n;obtain⟨⟨_,_,G,H⟩,⟨_,_,I,J⟩⟩:=h e n;simp only[nrm];omega
 by_cases c:∀ e∈l,In (N:Int) e.1/\In (N:Int) e.2.1;rw[ASL c];obtain⟨ys,v,w,y,K⟩:=ACc (N:Int) (ts.map ed) l m [] (d.2 c) List.nodup_nil (fun k=>by grind)
 rw[v];have g:ys.length<4294967296:=by grind
 obtain⟨L,z,A,B⟩:=SE.FX ys g (fun _ _=>trivial);have i:=M4 N ts l;have f:ys.Perm (Bo N ts l):=by
  rw[AT3 w (i.imp fun {a b} h=>by rintro rfl;unfold Cw at h;omega)]
  intro k;rw[y,PG];constructor;rintro (h|⟨r,j,x,C,rfl⟩);cases h;have:=(d.2 c) x C;refine⟨⟨this.1,j,this.2,?_⟩,r⟩;obtain⟨a,b,⟨⟩⟩:=x;unfold Q6 nrm;grind;rintro⟨⟨r,j,M,D⟩,E⟩;refine .inr ⟨E,j,?_⟩;obtain⟨a,b,⟨⟩⟩:=k;simp only at j;rcases D with h|h;exact⟨_,h,by unfold nrm;grind⟩;exact⟨_,h,by unfold nrm;grind⟩
 rw[tL A B i f]at z;grind;rw[ASH c,jq (N:Int) l (m,[]) (fun h=>c (d.1 h))]
end Go.Pev.Pl
end
section
namespace Go.Pev.Pl
def aR(e:Edge):Nat:=(min e.1 e.2.1).toNat*65536+(max e.1 e.2.1).toNat
def Kw(e:Edge):Prop:=0<=e.1/\e.1<65536/\0<=e.2.1/\e.2.1<65536
theorem ANb{e:Edge}(h:Kw e):aR e<4294967296:=by unfold Kw at h;unfold aR;omega
theorem gO{n:Int}(h:0<=n/\n<65536):qq (n,())=some (true,()):=by rw[qp,lD,BM,AR9 h.1,BC,AR9 h.2]
theorem AIT{a b:Nat}(d:a<65536)(f:b<65536):IntKind.wrap .u32 (BitVec.ofInt (IntKind.bits .u32) ((a*65536:Nat):Int) ||| BitVec.ofInt (IntKind.bits .u32) (b:Int)).toNat=((a*65536+b:Nat):Int):=by
 have e:(BitVec.ofInt (IntKind.bits .u32) ((a*65536:Nat):Int) ||| BitVec.ofInt (IntKind.bits .u32) (b:Int)).toNat=a*65536+b:=by rw[BitVec.toNat_or,AUR,AUR,AUf,AUf];have c:IntKind.bits .u32=32:=rfl;rw[c,ATu (by omega),ATu (by omega)];have:=Nat.shiftLeft_add_eq_or_of_lt (i:=16) (b:=b) (by omega) a;rw[Nat.shiftLeft_eq]at this;grind
 rw[e];exact KI (by omega)
theorem AJ2{e:Edge}(h:Kw e):AOS ((e.1,(e.2.1,())),())=some ((aR e:Int),true,()):=by
 obtain⟨u,v,⟨⟩⟩:=e;obtain⟨a,c,b,d⟩:=h;simp only at a c b d;obtain⟨u,rfl⟩:=ASD a;obtain⟨v,rfl⟩:=ASD b;rw[zg,wk];simp only[gO (show 0<=(u:Int)/\(u:Int)<65536 by omega),gO (show 0<=(v:Int)/\(v:Int)<65536 by omega),ASE];have f:C7 (u:Int) (v:Int)=((min u v:Nat):Int):=by unfold C7;omega
 have g:imax (u:Int) (v:Int)=((max u v:Nat):Int):=by unfold imax;omega
 have i:min u v<65536:=by omega
 have j:max u v<65536:=by omega
 rw[f,g,KI (by omega),KI (by omega)];have k:shl? .u32 ((min u v:Nat):Int) (16:Int)=some ((min u v*65536:Nat):Int):=by
  rw[QN,il,ASH (by omega)];have:min (16:Int).toNat (IntKind.bits .u32)=16:=by decide
  rw[this,show((min u v:Nat):Int)*2 ^ 16=((min u v*65536:Nat):Int) by omega,KI (by omega)]
 simp only[k];rw[AIT i j];have:aR ((u:Int),(v:Int),())=min u v*65536+max u v:=by unfold aR;grind
 rw[this]
def Ye(k:Int):Edge:=(k/65536,k % 65536,())
theorem AEO{k:Nat}(h:k<4294967296):zh ((k:Int),())=some (Ye k,()):=by
 rw[qt,lL];have a:shr? .u32 (k:Int) (16:Int)=some ((k:Int)/65536):=by
  rw[ZA,tO,ASH (by omega)];have:min (16:Int).toNat (IntKind.bits .u32)=16:=by decide
  grind
 have b:IntKind.wrap .u16 (k:Int)=(k:Int) % 65536:=by simp[IntKind.wrap,IntKind.bits,IntKind.signed]
 simp only[a,b];rw[BG (by omega),BG (by omega)];rfl
theorem eJ{e:Edge}(h:Kw e):Ye (aR e:Int)=(min e.1 e.2.1,max e.1 e.2.1,()):=by obtain⟨u,v,⟨⟩⟩:=e;obtain⟨a,b,c,d⟩:=h;simp only at a b c d;unfold Ye aR;grind
def DM(l:List Edge):List Nat:=(l.filter fun e=>decide (e.1≠e.2.1)).map aR
theorem pz{l:List Edge}(h:∀ e∈l,Kw e):∀ k∈DM l,k<4294967296:=by intro k a;obtain⟨e,b,rfl⟩:=ASS.1 a;exact ANb (h e (ASa.1 b).1)
theorem PJ(l:List Edge):(DM l).length<=l.length:=by unfold DM;grind
noncomputable def Ei(w:NM)(n:Nat):Int:=match C4 ((nbl n w.2.1.toNat:Int),w.2.2.1,()),C4 ((n:Int),w.2.2.1,())with
 |some a,some b=>2*a.2.1*(nps w.1.toNat:Int)+(2*a.2.1+b.2.1)
 |_,_=>0
theorem AJ1{f:List Nat}{w:NM}(r:Kl w)(h:FO f.length w.2.2.1)(s:∀ x∈f,x<4294967296)(i:f.length<=1000):
  0<=Ei w f.length/\(Ei w f.length=0->f=[])/\(f=[]->Ei w f.length=0)/\bV (nI f,w,())=some (Z_ (nI (srt f w.1.toNat)),Ei w f.length,0,()):=by
 obtain⟨b,c,p,u⟩:=w;obtain⟨t,y,z,A,j⟩:=r;simp only at t y z A j;obtain⟨b,rfl⟩:=ASD (show 0<=b by omega);obtain⟨c,rfl⟩:=ASD (show 0<=c by omega);have B:nbl f.length c<=1000:=ASs (US (by omega)) i;obtain⟨U,k,C,I,D,l⟩:=h (nbl f.length c) (US (by omega));obtain⟨V,m,E,J,F,G⟩:=h _ (ASG _);have g:Ei ((b:Int),(c:Int),p,u) f.length=((2*k*nps b+(2*k+m):Nat):Int):=by unfold Ei;grind
 obtain⟨T,K⟩:=qo (p:=p) (b:=b) (c:=c) (by omega) (by omega) (by omega) (by omega) s i D F C l E G;rw[g];refine⟨by omega,fun o => ?_,fun o => ?_,?_⟩;grind;subst o;have L:k=0:=by
  have H:nbl ([]:List Nat).length c=0:=by have:=US (n:=0) (b:=c) (by omega);grind
  rw[H]at l;have e:=Wx j;grind
 grind;obtain⟨a,d,q,v⟩:=p;rw[bU,YJ];grind
theorem AD9{xs:List Int}{w:NM}(h:¬ (Kl w/\xs.length<=1000)):bV (xs,w,())=some ([],0,1,()):=by
 have e:=ABN h;obtain⟨b,c,⟨a,d,q,v⟩,u⟩:=w;have g:ieq (1:Int) 0=false:=by rw[BB];rfl
 have f:fB (xs,b,c,(a,d,q,()),())=some ([],0,1,()):=e;have hd:S9 (xs,(b,c,(a,d,q,()),()),())=some ([],[],0,1,()):=by rw[RE,PU];grind
 rw[bU,YJ];grind
def Kf(l:List Edge)(b:Nat):List Edge:=(Z_ (nI (srt (DM l) b))).map Ye
theorem vU{l:List Nat}{x:Int}:x∈nI l↔∃ k∈l,x=(k:Int):=by unfold nI;grind
theorem PF{l:List Edge}{b:Nat}(j:∀ e∈l,Kw e)(x:Edge):x∈Kf l b↔0<=x.1/\x.1<x.2.1/\Q6 l x.1 x.2.1:=by
 unfold Kf;rw[ASS];constructor;rintro⟨k,f,rfl⟩;rw[aE,vU]at f;obtain⟨k,f,rfl⟩:=f;rw[(Ng _ _).mem_iff]at f;obtain⟨e,c,rfl⟩:=ASS.1 f;obtain⟨c,d⟩:=ASa.1 c;have d:e.1≠e.2.1:=by grind
 rw[eJ (j e c)];have g:=j e c;obtain⟨u,v,⟨⟩⟩:=e;unfold Kw at g;simp only at d g |-;rcases Int.lt_or_gt_of_ne d with h|h;rw[AUK (by omega),AUW (by omega)];exact⟨by omega,h,.inl c⟩;rw[Int.min_eq_right (by omega),Int.max_eq_left (by omega)];exact⟨by omega,h,.inr c⟩
 ·rintro⟨n,o,i⟩;obtain⟨u,v,⟨⟩⟩:=x;simp only at n o i;have m:∀ e:Edge,e∈l->e.1≠e.2.1->min e.1 e.2.1=u->max e.1 e.2.1=v->∃ a∈Z_ (nI (srt (DM l) b)),Ye a=(u,v,()):=by intro e c d p q;refine⟨(aR e:Int),?_,by rw[eJ (j e c),p,q]⟩;rw[aE,vU];refine⟨aR e,(Ng _ _).mem_iff.2 (ASS.2 ⟨e,ASa.2 ⟨c,by grind⟩,rfl⟩),rfl⟩
  rcases i with i|i;all_goals grind
theorem gK{l:List Edge}{b:Nat}:(Kf l b).length<=l.length:=by unfold Kf Z_;rw[ASZ,ASZ];have a:=X' (Q_ (nI (srt (DM l) b))) (nI (srt (DM l) b)).length;have c:=(Ng (DM l) b).length_eq;have d:=PJ l;rw[Ch]at a |-;omega
section
variable {l:List Edge} {w:NM} (hf:∀ e∈l,Kw e) (hn:l.length<=1000)
include hf hn
theorem W8(b c a d:Int)(q:List (List Int)):A9 Lh many (b,c,a,d,q,([]:List Int),l,(l.length:Int),(0:Int),())=some (.inr (.inl (b,c,a,d,q,nI (DM l),()))):=by
 have Q:=GP (step:=Lh) (fun i=>(b,c,a,d,q,nI (DM (l.take i)),l,(l.length:Int),(i:Int),())) l.length (.inr (.inl (b,c,a,d,q,nI (DM l),()))) (by omega)
  (fun i hi=>by
   obtain⟨e,f⟩:=Ca hi
   have g:=hf e (ASJ f)
   have j:=PJ (l.take i)
   rw[ASp]at j
   have k:DM (l.take (i+1))=DM (l.take i)++(if e.1=e.2.1 then []else [aR e]):=by
    rw[Cr f]
    unfold DM
    grind
   rw[Lh,A2,AR9 hi]
   simp only[A' f,AJ2 g,ASE,BB]
   rw[A5 (by omega),k]
   by_cases h:e.1=e.2.1
   ·grind
   ·rw[AR8 h,ASH h]
    simp only[ASf,A6,Ch,ASK,ASV]
    rw[CC (by omega)]
    simp only[Ej]
    unfold nI
    simp)
  (by rw[Lh,A2,AR8 (by omega),ASc])
 exact Q
theorem AEN(o:Kl w)(p:FO (DM l).length w.2.2.1):ba (l,w,())=some (Kf l w.1.toNat,Ei w (DM l).length,0,()):=by
 have r:=PJ l;obtain⟨_,_,_,hd⟩:=AJ1 o p (pz hf) (by omega);obtain⟨b,c,⟨a,d,q,v⟩,u⟩:=w;have g:bV (nI (DM l),(b,c,(a,d,q,()),()),())=some (Z_ (nI (srt (DM l) b.toNat)),Ei (b,c,(a,d,q,()),()) (DM l).length,0,()):=hd;rw[Vo,S'];simp only[A6,W8 hf hn,g];generalize m:Z_ (nI (srt (DM l) b.toNat))=O;have h:∀ k∈O,∃ n:Nat,k=(n:Int)/\n<4294967296:=by intro k f;rw[<- m,aE,vU]at f;obtain⟨n,s,t⟩:=f;exact⟨n,t,pz hf n ((Ng _ _).mem_iff.1 s)⟩
 have x:O.length<=1000:=by have:=gK (l:=l) (b:=b.toNat);unfold Kf at this;grind
 have Q:=GP (step:=HQ) (fun i=>(Ei (b,c,(a,d,q,()),()) (DM l).length,(0:Int),(O.take i).map Ye,O,(O.length:Int),(i:Int),())) O.length (.inl (Ei (b,c,(a,d,q,()),()) (DM l).length,(0:Int),O.map Ye,())) (by omega)
  (fun i hi=>by
   obtain⟨k,f⟩:=Ca hi
   obtain⟨n,rfl,j⟩:=h k (ASJ f)
   rw[HQ,A2,AR9 hi]
   simp only[A' f,Bm f,AEO j,A6,ASZ,ASp,ASK,ASV]
   rw[CC (by omega),A5 (by omega),Cr f]
   simp only[Ej,ASz]
   rfl)
  (by rw[HQ,A2,AR8 (by omega),ASc])
 have Q':A9 HQ many (Ei (b,c,(a,d,q,()),()) (DM l).length,(0:Int),([]:List Edge),O,(O.length:Int),(0:Int),())=_:=Q;simp only[Q'];unfold Kf;rw[m]
theorem wv(g:¬ Kl w):ba (l,w,())=some ([],0,1,()):=by
 have hd:=AD9 (xs:=nI (DM l)) (w:=w) fun h=>g h.1;obtain⟨b,c,⟨a,d,q,v⟩,u⟩:=w;have f:bV (nI (DM l),(b,c,(a,d,q,()),()),())=some ([],0,1,()):=hd;rw[Vo,S'];simp only[A6,W8 hf hn,f]
 have Q:=GP (step:=HQ) (fun i=>((0:Int),(1:Int),([]:List Edge),([]:List Int),(0:Int),(i:Int),())) 0 (.inl ((0:Int),(1:Int),([]:List Edge),())) (by omega)
  (fun i hi=>absurd hi (by omega))
  (by rw[HQ,BC,AR8 (by omega)])
 grind
end
theorem jV{N:Nat}{l a:List Edge}(h:∀ u v:Int,0<=u->u<v->(Q6 l u v↔Q6 a u v)):Dy N l=Dy N a:=by
 unfold Dy;refine ASt (List.flatMap · (List.range N)) (funext fun u => ?_)
 unfold n0;grind
theorem AD2{l:List Edge}{b:Nat}(c:∀ e∈l,Kw e){u v:Int}(d:0<=u)(h:u<v):Q6 (Kf l b) u v↔Q6 l u v:=by unfold Q6;constructor;rintro (a|a);exact((PF c _).1 a).2.2;have:=((PF c _).1 a).2.1;grind;intro a;exact .inl ((PF c (u,v,())).2 ⟨d,h,a⟩)
theorem W6{l:List Edge}{b N:Nat}(a:∀ e∈l,Kw e):Dy N (Kf l b)=Dy N l:=jV fun _ _ c h=>AD2 a c h
abbrev WN:=Int×Int×Int×Unit
abbrev Ra:=Int×List Edge×List WN×Unit
instance (e:Edge):Decidable (Kw e):=by unfold Kw;exact inferInstance
def bH(n:Int):Prop:=0<=n/\n<65536
instance (n:Int):Decidable (bH n):=by unfold bH;exact inferInstance
def TV(a:WN):Prop:=1<=a.1/\a.1<=4/\bH a.2.1/\bH a.2.2.1
instance (a:WN):Decidable (TV a):=by unfold TV;exact inferInstance
def WR(x:Ra):Prop:=((x.1=1\/x.1=2)/\x.2.2.1=[]/\x.2.1.length<=60/\∀ e∈x.2.1,Kw e)\/(x.1=3/\x.2.1=[]/\x.2.2.1.length<=60/\∀ a∈x.2.2.1,TV a)
instance (x:Ra):Decidable (WR x):=by unfold WR;exact inferInstance
theorem eD(n:Int):YZ (n,())=some (decide (bH n),()):=by
 rw[mu,iC];have e:IntKind.wrap .u16 n=n % 65536:=by simp[IntKind.wrap,IntKind.bits,IntKind.signed]
 rw[e,BG (by omega),BB];congr 2;rw[ATv];unfold bH;omega
theorem sQ(n:Int):hY (n,())=some (decide (1<=n/\n<=4),()):=by rw[dy,YV,BM];by_cases h:1<=n;rw[AR9 h,BM];simp[h];grind
theorem zy{α:Type}(P:α->Prop)[DecidablePred P](l:List α):(l.any fun x => !decide (P x)) = !decide (∀ x∈l,P x):=by grind
theorem AEc(l:List Edge)(d:l.length<=60):GJ (l,())=some (!decide (∀ e∈l,Kw e),()):=by
 have e:=Gg (step:=Fe) (fun i=>(l,(l.length:Int),(i:Int),())) l (fun e => !decide (Kw e)) (fun i=>.inl ((i:Int),())) (.inr (.inl ())) (by omega)
  (fun i x hi b=>by
   rw[Fe,A2,AR9 hi]
   simp only[A' b,eD]
   rw[A5 (by omega)]
   have a:Kw x↔bH x.1/\bH x.2.1:=by unfold Kw bH;omega
   grind)
  (by rw[Fe,A2,AR8 (by omega)])
 have c:A9 Fe many (l,(l.length:Int),(0:Int),())=_:=e;rw[OY,K1,P2,Mj];simp only[A6,c,zy];by_cases h:∀ e∈l,Kw e;rw[AR9 h];simp only[ASE,ASR,ASX];rw[BM,AR8 (by decide)];rw[AR8 h];simp only[ASf,ASh];rw[BM,AR9 (by omega)]
theorem AEd(l:List WN)(f:l.length<=60):Ki (l,())=some (!decide (∀ a∈l,TV a),()):=by
 have e:=Gg (step:=Ff) (fun i=>(l,(l.length:Int),(i:Int),())) l (fun a => !decide (TV a)) (fun i=>.inl ((i:Int),())) (.inr (.inl ())) (by omega)
  (fun i x hi c=>by
   rw[Ff,A2,AR9 hi]
   simp only[A' c,sQ,eD]
   rw[A5 (by omega)]
   have b:TV x↔(1<=x.1/\x.1<=4)/\bH x.2.1/\bH x.2.2.1:=by unfold TV;grind
   grind)
  (by rw[Ff,A2,AR8 (by omega)])
 have d:A9 Ff many (l,(l.length:Int),(0:Int),())=_:=e;rw[OZ,K2,P7,Ml];simp only[A6,d,zy];by_cases h:∀ a∈l,TV a;rw[AR9 h];simp only[ASE,ASR,ASX];rw[BM,AR8 (by decide)];rw[AR8 h];simp only[ASf,ASh];rw[BM,AR9 (by omega)]
theorem ANX{α:Type}(l:List α):ieq (l.length:Int) 0=decide (l=[]):=by rw[BB,ATv];simp
theorem Lx(x:Ra):hJ (x,())=some (decide (WR x),()):=by
 obtain⟨k,c,b,⟨⟩⟩:=x;rw[dv,YT];simp only[A6,ANX];simp only[BB];have d:∀ {α:Type} (l:List α),ile (l.length:Int) 60=decide (l.length<=60):=fun l=>by rw[BM,ATv];omega
 have g:k=1\/k=2->(WR (k,c,b,())↔b=[]/\c.length<=60/\∀ e∈c,Kw e):=by intro m;unfold WR;grind
 have h:k=1\/k=2->(match decide (b=[])with
   |true=>match ile (c.length:Int) 60 with
    |true=>match GJ (c,())with
     |none=>none
     |some (y0,_)=>some ((!y0),())
    |false=>some (false,())
   |false=>some (false,()))=some (decide (WR (k,c,b,())),()):=by
  intro m
  by_cases i:b=[]
  ·rw[AR9 i]
   simp only[d]
   by_cases f:c.length<=60
   ·rw[AR9 f]
    simp only[AEc c f,Bool.not_not]
    grind
   grind
  grind
 by_cases n:k=1;grind;rw[AR8 n];by_cases o:k=2;grind;rw[AR8 o];by_cases p:k=3;rw[AR9 p];have j:WR (k,c,b,())↔c=[]/\b.length<=60/\∀ a∈b,TV a:=by unfold WR;grind
 by_cases i:c=[]
 rw[AR9 i];simp only[d];by_cases f:b.length<=60;rw[AR9 f];simp only[AEd b f,Bool.not_not];grind;grind;grind;have q:¬ WR (k,c,b,()):=by unfold WR;omega
 grind
def Kr(a:WN):List Int:=if a.1=1 then [a.2.1,a.2.2.1]else if a.1=2\/a.1=3 then [a.2.1]else []
def D7(x:Ra):List Int:=(x.2.1.flatMap fun e=>[e.1,e.2.1])++x.2.2.1.flatMap Kr
theorem LS(a:WN):(Kr a).length<=2:=by unfold Kr;grind
theorem xh(a:WN):mU ((a.1,(a.2.1,(a.2.2.1,()))),())=some (Kr a,()):=by rw[gj,cT];simp only[BB];unfold Kr;grind
theorem GF{α:Type}(f:α->List Int)(b:∀ a,(f a).length<=2):∀ (l:List α),(l.flatMap f).length<=2*l.length:=by
 intro l;induction l with
  |nil=>simp
  |cons a l c=>grind
theorem WG{x:Ra}(h:x.2.1.length<=1000000)(j:x.2.2.1.length<=1000000):zv (x,())=some (D7 x,()):=by
 obtain⟨k,c,b,⟨⟩⟩:=x;simp only at h j;rw[rn,mP];have d:∀ i,((c.take i).flatMap fun e=>[e.1,e.2.1]).length<=2000000:=fun i=>by have:=GF (fun e:Edge=>[e.1,e.2.1]) (fun _=>by simp) (c.take i);grind
 have Q:=GP (step:=On) (fun i=>(k,c,b,((c.take i).flatMap fun e=>[e.1,e.2.1]),c,(c.length:Int),(i:Int),())) c.length (.inl (k,c,b,(c.flatMap fun e=>[e.1,e.2.1]),())) (by omega)
  (fun i hi=>by
   obtain⟨e,f⟩:=Ca hi
   have:=d i
   rw[On,A2,AR9 hi]
   simp only[A' f,A6,ASK,ASV]
   rw[CC (by omega),A5 (by omega),Cr f,ATS]
   simp only[Ej]
   rfl)
  (by rw[On,A2,AR8 (by omega),ASc])
 have Q':A9 On many (k,c,b,([]:List Int),c,(c.length:Int),(0:Int),())=_:=Q;simp only[A6,Q']
 have R:=GP (step:=TU) (fun i=>((c.flatMap fun e=>[e.1,e.2.1])++(b.take i).flatMap Kr,b,(b.length:Int),(i:Int),())) b.length (.inl (D7 (k,c,b,()),())) (by omega)
  (fun i hi=>by
   obtain⟨a,g⟩:=Ca hi
   have l:=d c.length
   rw[ASc]at l
   have m:=GF Kr LS (b.take i)
   rw[ASp]at m
   have n:=LS a
   rw[TU,A2,AR9 hi]
   simp only[A' g,xh,A6,ASN]
   rw[CC (by omega),A5 (by omega),Cr g,ATS]
   simp only[Ej,ATo]
   simp)
  (by rw[TU,A2,AR8 (by omega),ASc];rfl)
 grind
theorem Vs(n:Int)(ts:List Tie)(l:List Int)(c:l.length<=1000000):Kh (l,n,ts,())=some (n,ts,(l.any fun v=>decide (n<=v)),()):=by
 have e:=Gg (step:=Fc) (fun i=>(n,ts,l,(l.length:Int),(i:Int),())) l (fun v=>decide (n<=v)) (fun i=>.inl (n,ts,(i:Int),())) (.inr (.inl (n,ts,()))) (by omega)
  (fun i x hi a=>by
   rw[Fc,A2,AR9 hi]
   simp only[A' a,BM]
   rw[A5 (by omega)]
   grind)
  (by rw[Fc,A2,AR8 (by omega)])
 have b:A9 Fc many (n,ts,l,(l.length:Int),(0:Int),())=_:=e;rw[OX,K0,P1,Mi];simp only[A6,b];cases h:(l.any fun v=>decide (n<=v))with
  |true=>simp only[ASh];rw[BM,AR9 (by omega)]
  |false=>simp only[ASR,ASX];rw[BM,AR8 (by decide)]
instance (w:NM):Decidable (Kl w):=by unfold Kl;exact inferInstance
abbrev ARE:=Int×List Edge×List WN×Int×Int×Unit
def AMc(e:Int):ARE:=(0,[],[],0,e,())
def GR(n:Int)(ts:List Tie):Prop:=∃ N:Nat,n=(N:Int)/\RG2 N ts
theorem AG4(n:Int)(ts:List Tie)(i:ts.length<4611686018427387904):∃ b:Bool,GS ((n,(ts,())),())=some (b,())/\Cu ((n,(ts,())),())=some (b,())/\(b=true↔GR n ts):=by obtain⟨b,a,j,k⟩:=RR n ts i;refine⟨b,a,j,fun c => ?_,?_⟩;obtain⟨N,rfl,d,e,f,g⟩:=k c;subst c;exact⟨N,rfl,⟨d,e,f,g,(ZZ d e f g).1 a⟩⟩;rintro⟨N,rfl,h⟩;have:=h.r21;grind
section
variable {n:Int} {ts:List Tie} {x:Ra} {w:NM}
theorem AEm(d:ts.length<4611686018427387904)(h:¬ (GR n ts/\WR x)):K4 ((n,(ts,())),x,w,())=some (AMc 1):=by
 obtain⟨b,_,e,f⟩:=AG4 n ts d;obtain⟨k,g,a,⟨⟩⟩:=x;rw[Ls,Lt];simp only[e];cases b with
  |false=>rfl
  |true=>have c:¬ WR (k,g,a,()):=fun c=>h ⟨f.1 rfl,c⟩;simp only[ASE,Lx,AR8 c];rfl
theorem Tg(h:WR x):x.2.1.length<=60/\x.2.2.1.length<=60/\(∀ e∈x.2.1,Kw e):=by
 obtain⟨k,d,a,⟨⟩⟩:=x;rcases h with⟨_,b,c,f⟩|⟨_,b,c,_⟩
 all_goals grind
variable {N:Nat} (h:RG2 N ts) (hw:WR x)
include h hw
theorem xO(g:∃ v∈D7 x,(N:Int)<=v):K4 (((N:Int),(ts,())),x,w,())=some (AMc 10):=by
 obtain⟨i,j,_⟩:=Tg hw;have c:=WG (x:=x) (by omega) (by omega);have b:(D7 x).length<=1000000:=by unfold D7;rw[ASN];have:=GF (fun e:Edge=>[e.1,e.2.1]) (fun _=>by simp) x.2.1;have:=GF Kr LS x.2.2.1;omega
 have a:((D7 x).any fun v=>decide ((N:Int)<=v))=true:=by grind
 have d:=Vs (N:Int) ts (D7 x) b;obtain⟨k,l,f,⟨⟩⟩:=x;rw[Ls,Lt];simp only[h.lr,ASE,Lx,AR9 hw,c,d,a];rfl
variable (hv:∀ v∈D7 x,v<(N:Int))
include hv
omit h hw in
theorem rJ:((D7 x).any fun v=>decide ((N:Int)<=v))=false:=by grind
theorem xP(c:x.1=3):K4 (((N:Int),(ts,())),x,w,())=some (3,[],x.2.2.1,0,0,()):=by
 obtain⟨i,j,_⟩:=Tg hw;have d:=WG (x:=x) (by omega) (by omega);have b:(D7 x).length<=1000000:=by unfold D7;rw[ASN];have:=GF (fun e:Edge=>[e.1,e.2.1]) (fun _=>by simp) x.2.1;have:=GF Kr LS x.2.2.1;omega
 have a:=rJ hv;have f:=Vs (N:Int) ts (D7 x) b;obtain⟨k,l,g,⟨⟩⟩:=x;simp only at c;subst c;rw[Ls,Lt];simp only[h.lr,ASE,Lx,AR9 hw,d,f,a,BB,ASU]
theorem rK(Q:x.1=1\/x.1=2)(D:Kl w->FO x.2.1.length w.2.2.1):K4 (((N:Int),(ts,())),x,w,()) =
  if Kl w then
   if x.1=2 then some (2,CK N ts x.2.1,[],Ei w (DM x.2.1).length,0,())
   else if 400-ts.length<(Bo N ts x.2.1).length then some (AMc 2)else some (1,Bo N ts x.2.1,[],Ei w (DM x.2.1).length,0,())
  else some (AMc 1):=by
 obtain⟨R,S,f⟩:=Tg hw;have E:=WG (x:=x) (by omega) (by omega);have s:(D7 x).length<=1000000:=by unfold D7;rw[ASN];have:=GF (fun e:Edge=>[e.1,e.2.1]) (fun _=>by simp) x.2.1;have:=GF Kr LS x.2.2.1;omega
 have o:=rJ hv;have F:=Vs (N:Int) ts (D7 x) s;have G:=gK (l:=x.2.1) (b:=w.1.toNat);have p:∀ e∈Kf x.2.1 w.1.toNat,In (N:Int) e.1/\In (N:Int) e.2.1:=by
  intro e H;obtain⟨T,U,t⟩:=(PF f e).1 H;have I:e.2.1<(N:Int):=by refine hv _ ?_;unfold D7;refine ASF.2 (.inl (AT5.2 ?_));rcases t with t|t;all_goals grind
  have V:=h.hN;have W:=h.h1;unfold In;omega
 have u:CK N ts (Kf x.2.1 w.1.toNat)=CK N ts x.2.1:=by unfold CK;rw[W6 f]
 have y:Bo N ts (Kf x.2.1 w.1.toNat)=Bo N ts x.2.1:=by unfold Bo;rw[W6 f]
 have j:=UG h (Kf x.2.1 w.1.toNat) (by omega);rw[ASL p,u]at j;have g:=qM h.h1 h.hN ts h.ht (Kf x.2.1 w.1.toNat) (by omega) h.lr;rw[ASL p,y]at g;have r:=Lx x;rw[AR9 hw]at r;have z:=fun i=>AEN (w:=w) f (by omega) i ((D i).mono (PJ x.2.1));have A:=fun i=>wv (w:=w) f (by omega) i;have B:ieq x.1 3=false:=by rw[BB];grind
 have X:=h.ht;have m:zx (((N:Int),(ts,())),())=some (((400-ts.length:Nat):Int),()):=by rw[rq,mS];simp only[h.lr,ASE,A6];rw[BG (by omega),show(400:Int)-(ts.length:Int)=((400-ts.length:Nat):Int) by omega]
 have J:ieq (0:Int) 0=true:=by rw[BB];rfl
 have K:ieq (1:Int) 0=false:=by rw[BB];rfl
 obtain⟨k,L,M,⟨⟩⟩:=x;obtain⟨b,c,⟨a,d,q,⟨⟩⟩,⟨⟩⟩:=w;rw[Ls,Lt];simp only[h.lr,ASE,r,E,F,o,B];by_cases i:Kl (b,c,(a,d,q,()),());rw[ASL i];simp only[z i,J,ASE];by_cases O:k=2;subst O;rw[ASL rfl,BB,AR9 rfl];grind;have P:k=1:=by omega
 subst P;rw[ASH (by decide),BB,AR8 (by decide)];simp only[g,m,A6,A2];by_cases C:400-ts.length<(Bo N ts L).length;rw[ASL C,AR9 C];rfl;grind;rw[ASH i];simp only[A i,K,ASf];rfl
end
theorem v5{l:List Edge}{u v:Int}(h:Q6 l u v)(a:u<v):∃ e∈l,(min e.1 e.2.1,max e.1 e.2.1,())=((u,v,()):Edge):=by rcases h with h|h;all_goals grind
theorem sj{α:Type}[DecidableEq α]:∀ {l m:List α},l.Nodup->(∀ x∈l,x∈m)->l.length<=m.length:=by
 intro l;induction l with
  |nil=>simp
  |cons a l c=>
   intro m b d;rw[ATD]at b;have e:=d a (by simp);have:=c (m:=m.erase a) b.2 fun x f=>by grind
   grind
theorem vO{xs:List Edge}(h:xs.Pairwise Cw):xs.Nodup:=h.imp fun {a b} c=>by rintro rfl;unfold Cw at c;omega
theorem ABf(N:Nat)(l:List Edge):(Dy N l).length<=l.length:=by
 have:=sj (vO (Nv N l)) (m:=l.map fun e=>((min e.1 e.2.1,max e.1 e.2.1,()):Edge)) fun x a=>by obtain⟨f,b,g,c⟩:=(Fv N l x).1 a;obtain⟨e,h,d⟩:=v5 c b;grind
 grind
theorem zr(N:Nat)(ts:List Tie)(l:List Edge):(Bo N ts l).length+(CK N ts l).length<=l.length:=by have h:=(List.filter_append_perm (fun x=>decide (x∈ts.map ed)) (Dy N l)).length_eq;rw[ASN]at h;have:=ABf N l;unfold Bo CK;omega
theorem qV{xs ys:List Edge}(c:xs.Pairwise Cw)(d:ys.Pairwise Cw)(h:∀ x,x∈xs↔x∈ys):xs=ys:=
 ATg (le:=Cw) (fun a b _ _ e f=>by unfold Cw at e f;omega) c d ((AT3 (vO c) (vO d)).2 h)
theorem qG{l:List Edge}(h:∀ e∈l,e.1<e.2.1){u v:Int}(a:u<v):Q6 l u v↔((u,(v,())):Edge)∈l:=by
 constructor;·rintro (b|b);all_goals grind
 exact .inl
theorem We{N:Nat}{l L:List Edge}(c:∀ x∈L,x∈Dy N l)(x:Edge):x∈Dy N L↔x∈L:=by have a:∀ e∈L,e.1<e.2.1:=fun e d=>((Fv N l e).1 (c e d)).2.1;rw[Fv];constructor;rintro⟨_,b,_,f⟩;exact(qG a b).1 f;intro h;obtain⟨g,b,i,_⟩:=(Fv N l x).1 (c x h);exact⟨g,b,i,(qG a b).2 h⟩
theorem RM(N:Nat)(ts:List Tie)(l:List Edge):Bo N ts (Bo N ts l)=Bo N ts l:=by refine qV (M4 ..) (M4 ..) fun x => ?_;have a:∀ x∈Bo N ts l,x∈Dy N l:=fun x b=>(ASa.1 b).1;rw[show Bo N ts (Bo N ts l)=(Dy N (Bo N ts l)).filter (fun x => !decide (x∈ts.map ed))from rfl,ASa,We (l:=l) (L:=Bo N ts l) a];constructor;grind;exact fun h=>⟨h,(ASa.1 h).2⟩
theorem v7(N:Nat)(ts:List Tie)(l:List Edge):CK N ts (CK N ts l)=CK N ts l:=by refine qV (Jo ..) (Jo ..) fun x => ?_;have a:∀ x∈CK N ts l,x∈Dy N l:=fun x b=>(ASa.1 b).1;rw[show CK N ts (CK N ts l)=(Dy N (CK N ts l)).filter (fun x=>decide (x∈ts.map ed))from rfl,ASa,We (l:=l) (L:=CK N ts l) a];constructor;grind;exact fun h=>⟨h,(ASa.1 h).2⟩
open Tok
theorem wM{n:Int}{a:List (List Int)}(h:FR n a){i:Nat}{A:List Int}{v:Int}(c:In n v)(hi:a[i]? = some A)(e:v∈A):VQ ((n,(a,())),v,())=some (hd A,0,()):=by
 have d:=h.dom;have b:=RZ.2 h;have j:=h.rg A (ASJ hi);have f:Mq ((n,(a,())),[v],())=some (0,()):=by rw[Q9 n a _ d (by simp),AK2];grind
 have g:idx A (0:Int)=some (hd A):=by
  cases A with
   |nil=>grind
   |cons x A=>rw[H8];rfl
 rw[gE,bG];simp only[f,Dh,ASE,xy n a v d,b,c,and_self,ASh,h.jU hi c.2.2.2 e,A' hi,g]
theorem gF{n:Int}{a:List (List Int)}{l:List Edge}{out:List Int}(h:FC n a l)(d:KF n l out){v:Int}(b:In n v):VQ ((n,(a,())),v,())=some (cl out v,0,()):=by obtain⟨i,A,_,hi,c,_⟩:=QZ (h.fr.cov v b);rw[wM h.fr b hi c,au h d (ASJ hi) b c]
theorem c5{N:Nat}(s:1<=N)(t:N<=64){b:List (List Int)}{base:List Edge}{out:List Int}(h:FC (N:Int) b base)(d:KF (N:Int) base out)(l:List Edge)(k:l.length<1073741824)(f:∀ e∈l,In (N:Int) e.1/\In (N:Int) e.2.1):
  O_ (((N:Int),(b,())),l,())=some (l.map fun e=>(cl out e.1,cl out e.2.1,()),0,()):=by
 have g:=h.fr.dom;have m:=RZ.2 h.fr;have n:NU (((N:Int),(b,())),())=some (true,()):=by rw[L9 _ _ g.1 g.2];grind
 rw[R1,Nl];simp only[n,ASE,ZG (N:Int) l ⟨by omega,by omega⟩ k f,Dh]
 have e:=DL (step:=GO) (fun i (a:List Edge)=>((N:Int),b,a,l,A4 l,(i:Int),())) l (fun x a=>.inl (a++[(cl out x.1,cl out x.2.1,())])) (fun a=>.inl (a,())) (fun i a=>a.length<=i) (by omega)
  (fun i x a hi j u=>by
   refine⟨fun v c => ?_,fun r c=>(by cases c)⟩
   cases c
   obtain⟨o,p⟩:=f x (ASJ j)
   constructor
   ·rw[GO,A6,A2,AR9 hi]
    simp only[A' j,gF h d o,gF h d p]
    rw[CC (by simp only[A6,ASK,ASV];omega),A5 (by omega)]
    rfl
   grind)
  (fun a _=>by rw[GO,A6,A2,AR8 (by omega)]) [] (ASG _)
 have q:A9 GO many ((N:Int),b,[],l,A4 l,(0:Int),())=_:=e;simp only[q];rw[B2 (fun(x:Edge) (a:List Edge)=>a++[(cl out x.1,cl out x.2.1,())]),fy (fun x:Edge=>(cl out x.1,cl out x.2.1,()))];rfl
theorem nh{N:Nat}(n:1<=N)(m:N<=64){c:List (List Int)}{base:List Edge}(h:FC (N:Int) c base)(l:List Edge)(v:base.length+l.length<1073741824)(q:∀ e∈base,In (N:Int) e.1/\In (N:Int) e.2.1)(f:∀ e∈l,In (N:Int) e.1/\In (N:Int) e.2.1):
  Xw (((N:Int),(c,())),l,())=some (gfl base l,0,()):=by
 obtain⟨out,_,g⟩:=D3 (N:Int) base ⟨by omega,by omega⟩ (by omega) q;have d:∀ a:Int,(0<=a/\a<(N:Int))->In (N:Int) a:=fun a h=>fi n m h;obtain⟨s,w⟩:=k8 n m (l.map fun e=>(cl out e.1,cl out e.2.1,())) (by grind) (fun e i=>by obtain⟨x,j,rfl⟩:=ASS.1 i;exact⟨g.isin _ (f x j).1,g.isin _ (f x j).2⟩)
 have r:T4 ((List.range N).map (fun(k:Nat)=>(k:Int)),l.map fun e=>(cl out e.1,cl out e.2.1,()),())=some (s,gfl [] (l.map fun e=>(cl out e.1,cl out e.2.1,())),()):=by rw[T3,Ry];grind
 rw[ZE,T6];simp only[c5 n m h g l (by omega) f,Dh,ASE,ZL N m,r];rw[<- AOI (fun e=>(cl out e.1,cl out e.2.1,())) l base [] (fun p x s e=>by
  have t:∀ y∈p,y∈l:=fun y z=>by grind
  have j:x∈l:=by grind
  rw[AS1,ATH,CL,CL];exact lT (N:=N) (fun a b o u=>g.same a b (d a o) (d b u)) (fun a o=>g.con a (d a o)) (fun e i=>VG (q e i)) (fun e i=>VG (f e (t e i))) (VG (f x j)).1 (VG (f x j)).2)]
section
variable {α β:Type} [DecidableEq α]
end
end Go.Pev.Pl
end
section
namespace Go.Pev.Pl.ST
open Go.Sort
theorem M5{x y:Int×Int×Int×Bool×Unit}(_:ok x)(_:ok y):∃ c,C_ (x,y,())=some (c,())/\ilt c (0:Int)=lt x y:=by
 rw[qN,kX,OK,Mo];simp only[Oa,or_val,BC,lt];refine⟨_,rfl,?_⟩;apply ATv.2;by_cases d:x.1<y.1;simp[d];by_cases f:y.1<x.1;have a:¬ x.1=y.1:=by omega
 simp[d,f,a];have a:x.1=y.1:=by omega
 by_cases b:x.2.1<y.2.1;simp[a,b];by_cases e:y.2.1<x.2.1;simp[a,b,e];simp[a,b,e]
noncomputable def S:SG.SP (Int×Int×Int×Bool×Unit) Int:=⟨((0:Int),((0:Int),((0:Int),(false,())))),C_,tLt,ok,okz,Qk,lt,swo,fun a b=>M5 a b⟩
theorem FX(xs:List (Int×Int×Int×Bool×Unit))(h:xs.length<4294967296)(a:∀ x∈xs,ok x):∃ ys,yG (xs,())=some (ys,())/\ys.Perm xs/\ys.Pairwise fun x y=>lt y x=false:=SG.FX S xs h a
end Go.Pev.Pl.ST
end
section
namespace Go.Pev.Pl
open Tok
theorem ADl(n e:Int)(b ts:List Tie)(xs:List Edge)(bs:List Bool)(l:xs.length<=4096)(m:ts.length<=400)(o:bs.length=xs.length):
  A9 PR many (n,b,e,xs,bs,ts,A4 xs,(0:Int),())=some (.inl (n,b,e,xs,ts++KB xs bs xs.length,())):=by
 have g:=DL (step:=PR) (fun i (a:List Tie)=>(n,b,e,xs,bs,a,A4 xs,(i:Int),())) (List.range xs.length) (fun i a=>.inl (a++[Nc (xs.getD i (0,0,())) (bs.getD i false)])) (fun a=>.inl (n,b,e,xs,a,())) (fun i a=>a.length=ts.length+i) (by grind)
  (fun i x a hi c p=>by
   refine⟨fun q d => ?_,fun r d=>(by cases d)⟩
   cases d
   have:=DB c
   subst this
   rw[ASP]at hi
   constructor
   ·rw[PR,A6,A2,AR9 hi]
    simp only[Dr ((0:Int),((0:Int),())) hi,Dr false (show x<bs.length by omega),Gk]
    rw[A5 (by omega),CC (by simp only[A6,ASK,ASV];omega)]
    rfl
   grind)
  (fun a _=>by rw[PR,ASP,A6,A2,AR8 (by omega)]) ts rfl
 have h:A9 PR many (n,b,e,xs,bs,ts,A4 xs,(0:Int),())=_:=g;rw[h,B2 (fun(i:Nat) (a:List Tie)=>a++[Nc (xs.getD i (0,0,())) (bs.getD i false)])];have f:∀ k,(List.range k).foldl (fun(a:List Tie) (i:Nat)=>a++[Nc (xs.getD i (0,0,())) (bs.getD i false)]) ts=ts++KB xs bs k:=by
  intro k;induction k with
   |zero=>simp[KB]
   |succ k j=>rw[ASi,ATN,j,ACb];simp
 rw[f]
theorem AJZ{N:Nat}{ts:List Tie}(h:RG2 N ts)(l:List Edge)(o:l.length<1073741824):
  (∃ e,e≠0/\ADm (((N:Int),(ts,())),l,())=some ((N:Int),ts,0,e,())/\¬ (cU N l/\ts.length+(Bo N ts l).length<=400)) \/
  (cU N l/\ts.length+(Bo N ts l).length<=400/\ADm (((N:Int),(ts,())),l,())=some ((N:Int),grown N ts l,((Bo N ts l).length:Int),0,())):=by
 have d:=qM h.h1 h.hN ts h.ht l o h.lr;rw[zU,wE];by_cases a:¬ ∀ e∈l,In (N:Int) e.1/\In (N:Int) e.2.1;rw[ASH a]at d;left;simp only[d,BB];exact⟨10,by omega,rfl,fun q=>a q.1⟩;have a:=AUO.1 a;rw[ASL a]at d;have p:=Vw N h.hN ts l;have f:=bw h.hN ts l;have r:=Q8 N ts l;have g:=(MS N _).1 (VM h.hN h.oks l);have c:=kU (Bo N ts l) (trs ts ts.length);have y:=h.ht;have s:=h.ARr;generalize t:grown N ts l=ts' at *;have u:zP (((N:Int),(ts,())),A4 (Bo N ts l),())=some (decide (ts.length+(Bo N ts l).length<=400),()):=by rw[qJ,kT];simp only[A6];rw[wrap_add (by omega),BM];congr 2;grind
 simp only[d,Dh,ASE,u];by_cases b:¬ ts.length+(Bo N ts l).length<=400;left;rw[AR8 b];exact⟨2,by omega,rfl,fun q=>b q.2⟩;have b:=AUO.1 b;right;rw[AR9 b];obtain⟨i,j,v⟩:=pq h.h1 h.hN ts h.ht h.oks h.lr;have k:=nh h.h1 h.hN v (Bo N ts l) (by omega) h.inT f;obtain⟨ys,n,w,x⟩:=ST.FX (ts++KB (Bo N ts l) (gfl (trs ts ts.length) (Bo N ts l)) (Bo N ts l).length) (by rw[ASN,KB,ASZ,ASP];omega) (fun _ _=>trivial);rw[tK (N:=N) w x g.2 r.symm]at n;refine⟨a,b,?_⟩;have m:=ADl (N:Int) 0 ts ts (Bo N ts l) _ (by omega) h.ht c;simp only[ASE,j,k,HW (show ts.length<=4294967296 by omega),m,n];rfl
theorem bg{N:Nat}{out:List Int}(f:out.length=N)(vs:List Int)(k:vs.length<100):Vq (out,vs,())=some (decide (∀ v∈vs,InV N v),()):=by
 rw[gQ,bh,IY,F6,Jn,Ga]
 have e:=Gg (step:=DW) (fun i=>(out,vs,A4 vs,(i:Int),())) vs (fun x => !decide (InV N x)) (fun i=>.inl (out,(i:Int),())) (.inr (.inl (out,()))) (by omega)
  (fun i x hi g=>by
   rw[DW]
   simp only[A6]
   rw[A2,AR9 hi]
   simp only[A' g]
   rw[BC,BM,f,A5 (by omega)]
   by_cases c:x<0
   ·rw[AR9 c,AR8 (show ¬ InV N x from fun h=>by have:=h.1;omega)];rfl
   ·rw[AR8 c]
    by_cases d:(N:Int)<=x
    ·rw[AR9 d,AR8 (show ¬ InV N x from fun h=>by have:=h.2;omega)];rfl
    ·rw[AR8 d,AR9 (show InV N x from⟨by omega,by omega⟩)];rfl)
  (by rw[DW,A6,A2,AR8 (by omega)])
 have j:A9 DW many (out,vs,A4 vs,(0:Int),())=_:=e;simp only[j];have a:(vs.any fun x => !decide (InV N x)) = !decide (∀ v∈vs,InV N v):=by grind
 rw[a];generalize decide (∀ v∈vs,InV N v)=b;cases b<;>simp[BM]
theorem xA{N:Nat}(g:N<=64){out:List Int}(b:out.length=N)(k u v:Int)(h:InV N u):bo (out,out,k,u,v,())=some (out,k,u,v,(ARi out N (cl out u):Int),()):=by
 rw[gT,bn]
 have e:=DL (step:=Lm) (fun i (a:Nat)=>(out,k,u,v,(a:Int),out,A4 out,(i:Int),())) (List.range N) (fun k a=>.inl (if out.getD k 0=cl out u then a+1 else a)) (fun a=>.inl (out,k,u,v,(a:Int),())) (fun i a=>a<=i) (by grind)
  (fun i x a hi d j=>by
   refine⟨fun l c => ?_,fun r c=>(by cases c)⟩
   cases c
   have:=DB d
   subst this
   rw[ASP]at hi
   constructor
   ·rw[Lm,A6,b,A2,AR9 hi]
    simp only[Dr 0 (show x<out.length by omega),WB b h,BB]
    rw[A5 (by omega),A5 (by omega)]
    grind
   grind)
  (fun a _=>by rw[Lm,ASP,A6,b,A2,AR8 (by omega)]) 0 (ASG _)
 have f:A9 Lm many (out,k,u,v,(0:Int),out,A4 out,(0:Int),())=_:=e;simp only[f];rw[B2 (fun k a=>if out.getD k 0=cl out u then a+1 else a),fx (fun k=>out.getD k 0=cl out u),ATE];rfl
theorem w9{N:Nat}(g:N<=64){out:List Int}(c:out.length=N):lQ (out,())=some ((cnt out N:Int),()):=by
 rw[gS,bm]
 have e:=DL (step:=Ll) (fun i (a:Nat)=>((a:Int),out,A4 out,(i:Int),())) (List.range N) (fun k a=>.inl (if out.getD k 0=(k:Int)then a+1 else a)) (fun a=>.inl ((a:Int),())) (fun i a=>a<=i) (by grind)
  (fun i x a hi d h=>by
   refine⟨fun j b => ?_,fun r b=>(by cases b)⟩
   cases b
   have:=DB d
   subst this
   rw[ASP]at hi
   constructor
   ·rw[Ll,A6,c,A2,AR9 hi]
    simp only[Dr 0 (show x<out.length by omega),BB]
    rw[A5 (by omega),A5 (by omega)]
    grind
   grind)
  (fun a _=>by rw[Ll,ASP,A6,c,A2,AR8 (by omega)]) 0 (ASG _)
 have f:A9 Ll many ((0:Int),out,A4 out,(0:Int),())=_:=e;simp only[f];rw[B2 (fun k a=>if out.getD k 0=(k:Int)then a+1 else a),fx (fun k=>out.getD k 0=(k:Int)),ATE];rfl
theorem rY{N:Nat}(e:N<=64){out:List Int}(b:out.length=N)(a:Ask):YM (out,a,())=some (ans N out a):=by obtain⟨k,u,v,⟨⟩⟩:=a;rw[cF,WD];unfold ans;simp only[BB,bg b [u,v] (by simp),bg b [u] (by simp),w9 e b];by_cases c:k=1;simp only[AR9 c,ASL c];by_cases h:InV N u/\InV N v;rw[ASL h,AR9 (show ∀ x∈[u,v],InV N x by simp[h])];simp only[ASE,WB b h.1,WB b h.2];grind;grind;simp only[AR8 c,ASH c];by_cases d:k=2;simp only[AR9 d,ASL d];by_cases h:InV N u;rw[ASL h,AR9 (show ∀ x∈[u],InV N x by simp[h])];simp only[ASE,WB b h];grind;simp only[AR8 d,ASH d];by_cases f:k=3;simp only[AR9 f,ASL f];by_cases h:InV N u;rw[ASL h,AR9 (show ∀ x∈[u],InV N x by simp[h])];simp only[ASE,xA e b k u v h];grind;grind
theorem AGh{N:Nat}{ts:List Tie}(h:RG2 N ts):∃ out:List Int,yL (((N:Int),(ts,())),())=some (out,true,())/\out.length=N/\KF (N:Int) (ts.map ed) out:=by
 have b:Sz (N:Int):=⟨by have:=h.h1;omega,by have:=h.hN;omega⟩
 obtain⟨c,d,a⟩:=iy (N:Int) (ts.map ed) b (by rw[ASZ];have:=h.ht;omega) h.inE;refine⟨c,?_,by have:=a.len;omega,a⟩;rw[ni,jA];simp only[h.lr,ASE,Qq (N:Int) ts h.ht h.lr,d]
theorem jB{N:Nat}{ts:List Tie}(h:RG2 N ts)(l:List Ask)(v:l.length<=1000000):∃ (b:List Int) (e:Int),LC (((N:Int),(ts,())),l,())=some (b,e,())/\b.length<=l.length:=by
 obtain⟨out,g,j,_⟩:=AGh h;have m:=h.hN;rw[Wd,QR];simp only[g,ASE]
 have e:=DL (step:=F8) (fun i (a:List Int)=>(out,a,l,A4 l,(i:Int),())) l (fun x a=>if(ans N out x).2.1=0 then .inl (a++[(ans N out x).1])else .inr (.inl ((ans N out x).2.1,()))) (fun a=>.inr (.inl (a,()))) (fun i a=>a.length=i) (by omega)
  (fun i x a hi n w=>by
   have d:F8 (out,a,l,A4 l,(i:Int),())=if(ans N out x).2.1=0 then some (.inl (out,a++[(ans N out x).1],l,A4 l,((i+1:Nat):Int),()))else some (.inr (.inl ((ans N out x).2.1,()))):=by
    obtain⟨o,p,r,⟨⟩⟩:=x
    rw[F8,A6,A2,AR9 hi]
    simp only[A' n,rY m j]
    generalize ans N out (o,(p,(r,())))=q
    obtain⟨y,s,⟨⟩⟩:=q
    simp only[BB]
    by_cases f:s=0
    ·rw[AR9 f,ASL f]
     simp only[ASE]
     rw[CC (by simp only[A6,AUJ];omega),A5 (by omega)]
     rfl
    grind
   grind)
  (fun a _=>by rw[F8,A6,A2,AR8 (by omega)]) [] rfl
 have t:A9 F8 many (out,([]:List Int),l,A4 l,(0:Int),())=_:=e;simp only[t];have d:∀ (xs:List Ask) (a:List Int),(∃ c:Int,walk (ρ:=(Int×Unit)⊕(List Int×Unit)⊕Unit) (fun x a=>if(ans N out x).2.1=0 then .inl (a++[(ans N out x).1])else .inr (.inl ((ans N out x).2.1,()))) (fun a=>.inr (.inl (a,()))) xs a = .inl (c,()))\/∃ b:List Int,walk (ρ:=(Int×Unit)⊕(List Int×Unit)⊕Unit) (fun x a=>if(ans N out x).2.1=0 then .inl (a++[(ans N out x).1])else .inr (.inl ((ans N out x).2.1,()))) (fun a=>.inr (.inl (a,()))) xs a = .inr (.inl (b,()))/\b.length=a.length+xs.length:=by
  intro xs;induction xs with
   |nil=>exact fun a=>.inr ⟨a,rfl,rfl⟩
   |cons x xs u=>
    intro a;rw[walk];by_cases q:(ans N out x).2.1=0
    ·rw[ASL q];rcases u (a++[(ans N out x).1])with h|⟨b,z,A⟩
     all_goals grind
    grind
 rcases d l []with⟨c,k⟩|⟨b,k,B⟩
 all_goals grind
end Go.Pev.Pl
end
section
namespace Go.Pev
open Go.Proofs
noncomputable section
abbrev pvT(ns:List Int):Option (List Int):=oE 83 [.i64] (.panic [C' (ABX 83 [.i64] ns)])
def ANu[Lk]:(Int×Unit)->Option (Unit⊕(List Int×Unit)):=fun(a,_)=>
 match(!(ieq a (0:Int)))with
 |true=>some (.inr ([a],()))
 |false=>some (.inl ())
theorem ADP:∀ v,ANu v=DU 0 Tryz.prog GZ.e YD Tryz.f49 Io Im KX 83 [.i64] PM v:=by intro _;kernel_rfl
def Qy[Lk](v:Int×Unit):Option (Unit⊕(List Int×Unit)):=Wu v
abbrev sO:=Int×List (Int×Int×Int×Bool×Unit)×Int×Int×Int×Int×List Int×Unit
def Sd[Lk]:(Int×List (Int×Int×Int×Bool×Unit)×Int×Int×Int×Int×List Int×(Int×List (Int×Int×Unit)×List (Int×Int×Int×Unit)×Unit)×(Int×Int×(Int×Int×List (List Int)×Unit)×Unit)×Unit)->Option (sO⊕(List Int×Unit)):=fun(b,c,d,e,f,i,g,h,a,_)=>
 match K4 ((b,(c,())),(h.1,(h.2.1,(h.2.2.1,()))),(a.1,(a.2.1,((a.2.2.1.1,(a.2.2.1.2.1,(a.2.2.1.2.2.1,()))),()))),())with
 |none=>none
 |some (y0,y1,y2,y3,y4,_)=>match Qy (y4,())with
  |none=>none
  |some r=>match r with
   |.inr (ns,_)=>match pvT ns with
    |some n=>some (.inr (n,()))
    |none=>none
   |.inl _=>match C4 ((w64 ((A4 y1)+(A4 y2))),(a.2.2.1.1,(a.2.2.1.2.1,(a.2.2.1.2.2.1,()))),())with
    |none=>none
    |some (z0,z1,z2,_)=>match Qy (z2,())with
     |none=>none
     |some r=>match r with
      |.inr (ns,_)=>match pvT ns with
       |some n=>some (.inr (n,()))
       |none=>none
      |.inl _=>match(ieq y0 (1:Int))with
       |true=>match ADm ((b,(c,())),y1,())with
        |none=>none
        |some (u0,u1,u2,u3,_)=>match Qy (u3,())with
         |none=>none
         |some r=>match r with
          |.inr (ns,_)=>match pvT ns with
           |some n=>some (.inr (n,()))
           |none=>none
          |.inl _=>some (.inl (u0,u1,(w64 (d+(1:Int))),(w64 (e+(w64 (y3+z1)))),f,u2,g,()))
       |false=>match(ieq y0 (2:Int))with
        |true=>match Wf ((b,(c,())),y1,())with
         |none=>none
         |some (u0,u1,u2,_)=>match Qy (u2,())with
          |none=>none
          |some r=>match r with
           |.inr (ns,_)=>match pvT ns with
            |some n=>some (.inr (n,()))
            |none=>none
           |.inl _=>some (.inl (u0.1,u0.2.1,(w64 (d+(1:Int))),(w64 (e+(w64 (y3+z1)))),f,(A4 y1),g,()))
        |false=>match(ieq y0 (3:Int))with
         |true=>match LC ((b,(c,())),y2,())with
          |none=>none
          |some (u0,u1,_)=>match Qy (u1,())with
           |none=>none
           |some r=>match r with
            |.inr (ns,_)=>match pvT ns with
             |some n=>some (.inr (n,()))
             |none=>none
            |.inl _=>some (.inl (b,c,(w64 (d+(1:Int))),(w64 (e+(w64 (y3+z1)))),f,i,u0,()))
         |false=>match Qy (z2,())with
          |none=>none
          |some r=>match r with
           |.inr (ns,_)=>match pvT ns with
            |some n=>some (.inr (n,()))
            |none=>none
           |.inl _=>some (.inl (b,c,(w64 (d+(1:Int))),(w64 (e+(w64 (y3+z1)))),f,i,g,()))
def vq[Lk](v:(Int×List (Int×Int×Int×Bool×Unit)×Int×Int×Int×Int×List Int×(Int×List (Int×Int×Unit)×List (Int×Int×Int×Unit)×Unit)×(Int×Int×(Int×Int×List (List Int)×Unit)×Unit)×Unit)):Option (sO⊕(List Int×Unit)):=aU v
theorem ADM:∀ v,Sd v=DU 1 Tryz.prog Tc YA Tryz.f30 Il Ik KV 83 [.i64] PL v:=by intro _;kernel_rfl
abbrev ARl:=(Int×List (Int×Int×Int×Bool×Unit)×Unit)×Int×Int×Unit
abbrev AR7:=Int×List (Int×Int×Unit)×List (Int×Int×Int×Unit)×Unit
abbrev AR3:=Int×Int×(Int×Int×List (List Int)×Unit)×Unit
def p9[Lk]:(ARl×AR7×AR3×Unit)->Option (ARl×(Int×Int×List Int×Unit)×Unit):=fun(s,x,w,_)=>
 match Kt (((s.1.1,(s.1.2.1,())),(s.2.1,(s.2.2.1,()))),())with
 |none=>none
 |some (y0,_)=>match(!y0)with
  |true=>some (((s.1.1,(s.1.2.1,())),(s.2.1,(s.2.2.1,()))),(1,(0,([],()))),())
  |false=>match vq (s.1.1,s.1.2.1,s.2.1,s.2.2.1,(0:Int),(0:Int),[],(x.1,(x.2.1,(x.2.2.1,()))),(w.1,(w.2.1,((w.2.2.1.1,(w.2.2.1.2.1,(w.2.2.1.2.2.1,()))),()))),())with
   |none=>none
   |some r=>match r with
    |.inr (ns,_)=>some (((s.1.1,(s.1.2.1,())),(s.2.1,(s.2.2.1,()))),(ns.headD 0,(0,([],()))),())
    |.inl (a0,a1,a2,a3,a4,a5,a6,_)=>some (((a0,(a1,())),(a2,(a3,()))),(a4,(a5,(a6,()))),())
theorem vo:∀ v,p9 v=Qb Tryz.prog Tb Tryz.f20 2 LX LW OB {} PK VB aS 3 v:=by intro _;kernel_rfl
end
end Go.Pev
end
section
namespace Go.Pev.Pl
theorem H7(e:Int):Qy (e,())=if e=0 then some (.inl ())else some (.inr ([e],())):=by show Wu (e,())=_;refine((aX _).trans (ADP _).symm).trans ?_;show(match(!(ieq e (0:Int)))with|true=>some (Sum.inr ([e],()))|false=>some (Sum.inl ()))=_;rw[BB];grind
theorem SA(e:Int):pvT [e]=some [e]:=by kernel_rfl
section
variable {n:Int} {ts:List Tie} {b c:Int} {x:Ra} {w:NM}
def IV(n:Int)(ts:List Tie)(b c:Int)(x:Ra)(w:NM)(r:sO⊕(List Int×Unit)):Prop:=vq (n,ts,b,c,(0:Int),(0:Int),[],x,w,())=some r
theorem lF(x:Ra)(w:NM):vq (n,ts,b,c,(0:Int),(0:Int),[],x,w,())=Sd (n,ts,b,c,(0:Int),(0:Int),[],x,w,()):=(aT _).trans (ADM _).symm
theorem S_{k:Int}{d:List Edge}{a:List WN}{m e:Int}(f:K4 ((n,(ts,())),x,w,())=some (k,d,a,m,e,()))(g:e≠0):IV n ts b c x w (.inr ([e],())):=by unfold IV;rw[lF];obtain⟨h,i,j,⟨⟩⟩:=x;obtain⟨l,o,⟨p,q,r,⟨⟩⟩,⟨⟩⟩:=w;rw[Sd];simp only[f,H7,ASH g,SA]
theorem AEH{k:Int}{d:List Edge}{a:List WN}{m:Int}(f:K4 ((n,(ts,())),x,w,())=some (k,d,a,m,0,()))(j:d.length<=100000)(l:a.length<=100000){e:Int}{U:List Int}{q:Int}(g:C4 (((d.length+a.length:Nat):Int),w.2.2.1,())=some (U,q,e,()))(h:e≠0):IV n ts b c x w (.inr ([e],())):=by
 unfold IV;rw[lF];obtain⟨o,p,r,⟨⟩⟩:=x;obtain⟨s,t,⟨u,v,y,⟨⟩⟩,⟨⟩⟩:=w;rw[Sd];have i:w64 ((A4 d)+(A4 a))=((d.length+a.length:Nat):Int):=by rw[A6,A6,wrap_add (by omega)]
 simp only[f,H7,ASh,i];simp only[g,H7,ASH h,SA]
theorem lE{k:Int}{f:List Edge}{d:List WN}{m:Int}(o:K4 ((n,(ts,())),x,w,())=some (k,f,d,m,0,()))(s:f.length<=100000)(t:d.length<=100000){U:List Int}{q:Int}(p:C4 (((f.length+d.length:Nat):Int),w.2.2.1,())=some (U,q,0,())):
  (k=1->∀ g a j e,ADm ((n,(ts,())),f,())=some (g,a,j,e,())->IV n ts b c x w (if e=0 then .inl (g,a,w64 (b+1),w64 (c+w64 (m+q)),0,j,[],())else .inr ([e],()))) /\
  (k=2->∀ g a l e,Wf ((n,(ts,())),f,())=some ((g,(a,())),l,e,())->IV n ts b c x w (if e=0 then .inl (g,a,w64 (b+1),w64 (c+w64 (m+q)),0,(f.length:Int),[],())else .inr ([e],()))) /\
  (k=3->∀ l e,LC ((n,(ts,())),d,())=some (l,e,())->IV n ts b c x w (if e=0 then .inl (n,ts,w64 (b+1),w64 (c+w64 (m+q)),0,0,l,())else .inr ([e],()))):=by
 unfold IV;rw[lF];obtain⟨u,v,y,⟨⟩⟩:=x;obtain⟨z,A,⟨B,C,D,⟨⟩⟩,⟨⟩⟩:=w;rw[Sd];have r:w64 ((A4 f)+(A4 d))=((f.length+d.length:Nat):Int):=by rw[A6,A6,wrap_add (by omega)]
 simp only[o,H7,ASh,r];simp only[p,H7,ASh,BB];refine⟨?_,?_,?_⟩;rintro rfl g a j e h;simp only[ASU,h,H7];by_cases i:e=0;grind;simp only[ASH i,SA];rintro rfl g a l e h;simp only[show decide ((2:Int)=1)=false from rfl,ASU,h,H7,A6];by_cases i:e=0;grind;simp only[ASH i,SA];rintro rfl l e h;simp only[show decide ((3:Int)=1)=false from rfl,show decide ((3:Int)=2)=false from rfl,ASU,h,H7];by_cases i:e=0;grind;simp only[ASH i,SA]
end
end Go.Pev.Pl
end
section

end
section
namespace Go.Pev.Pl
abbrev AO9:=(Int×(List (Int×Int×Int×Bool×Unit))×Unit)×Int×Int×Unit
abbrev ARC:=Int×Int×(List Int)×Unit
def tkO(s:AO9):sO⊕(List Int×Unit)->Option (AO9×ARC×Unit)
 |.inr (ns,_)=>some (s,(ns.headD 0,(0,([],()))),())
 |.inl (a0,a1,a2,a3,a4,a5,a6,_)=>some (((a0,(a1,())),(a2,(a3,()))),(a4,(a5,(a6,()))),())
theorem MD{n:Int}{ts:List Tie}{b c:Int}(a:Kt (((n,(ts,())),(b,(c,()))),())=some (true,()))(x:Ra)(w:NM){r:sO⊕(List Int×Unit)}(h:IV n ts b c x w r):
  Ks (((n,(ts,())),(b,(c,()))),x,w,())=tkO ((n,(ts,())),(b,(c,()))) r:=by refine((fe _).trans (vo _).symm).trans ?_;unfold IV at h;obtain⟨d,e,f,⟨⟩⟩:=x;obtain⟨g,i,⟨j,k,l,⟨⟩⟩,⟨⟩⟩:=w;unfold p9;dsimp only;simp only[a,ASE];rw[h];cases r<;>rfl
section
variable {N:Nat} {ts:List Tie} {b c:Int} {x:Ra} {w:NM}
abbrev ME(N:Nat)(ts:List Tie)(b c:Int):AO9:=(((N:Int),(ts,())),(b,(c,())))
theorem ADN{N:Nat}{ts:List Tie}(h:RG2 N ts){b c:Int}(e:0<=b/\b<=1099511627776)(f:0<=c/\c<=1099511627776):Kt (ME N ts b c,())=some (true,()):=by
 have a:∀ n:Int,0<=n/\n<=1099511627776->OI (n,())=some (true,()):=fun n d=>by rw[Ww,Q5,BM,BM,AR9 d.1,AR9 d.2]
 rw[ff,aV];simp only[h.lr,a b e,a c f]
theorem AEg{N:Nat}(a:N<=64)(ts:List Tie)(l:List Edge):cU N (Bo N ts l):=bw a ts l
theorem AGA{e:Int}(d:e≠0)(a:Kt (ME N ts b c,())=some (true,()))(hd:IV (N:Int) ts b c x w (.inr ([e],()))):Ks (ME N ts b c,x,w,())=some (ME N ts b c,(e,(0,([],()))),()):=MD a _ w hd
theorem AAt(h:RG2 N ts)(j:Kt (ME N ts b c,())=some (true,()))(d:WR x)(k:∀ v∈D7 x,v<(N:Int))(l:x.1=1)(m:Kl w)(f:FO 60 w.2.2.1)(n:ts.length+(Bo N ts x.2.1).length<=400):
  ∃ (U:List Int) (q:Int),C4 (((Bo N ts x.2.1).length:Int),w.2.2.1,())=some (U,q,0,()) /\
   Ks (ME N ts b c,x,w,())=some (ME N (grown N ts (Bo N ts x.2.1)) (w64 (b+1)) (w64 (c+w64 (Ei w (DM x.2.1).length+q))),(0,(((Bo N ts x.2.1).length:Int),([],()))),()):=by
 obtain⟨o,y,z⟩:=Tg d;have g:=rK h d k (w:=w) (.inl l) fun _=>f.mono o;rw[ASL m,ASH (by omega),ASH (by omega)]at g;have p:=Vw N h.hN ts x.2.1;have r:=zr N ts x.2.1;obtain⟨U,q,_,_,_,i⟩:=f ((Bo N ts x.2.1).length+([]:List WN).length) (by simp only[ASV];omega);obtain⟨s,_,_⟩:=lE (b:=b) (c:=c) g (by omega) (by simp) i;refine⟨nI U,(q:Int),i,?_⟩;have a:=RM N ts x.2.1;rcases AJZ h (Bo N ts x.2.1) (by omega)with⟨e,_,_,t⟩|⟨_,_,u⟩
 exact absurd ⟨AEg h.hN ts x.2.1,by rw[a];exact n⟩ t;have hd:=s rfl _ _ _ _ u;rw[ASL rfl,a]at hd;exact MD j _ w hd
def AO8(N:Nat)(ts:List Tie)(x:Ra)(w:NM)(a:List Tie)(f:Int)(r:ARC):Prop:=
 (∃ e,e≠0/\a=ts/\r=(e,(0,([],())))) \/
 ∃ (m q:Int) (k:Nat) (U:List Int) (d:Int) (l:List Int),Ek w.2.2.1/\WR x/\(∀ v∈D7 x,v<(N:Int))/\C4 ((k:Int),w.2.2.1,())=some (U,q,0,())/\f=m+q/\r=(0,(d,(l,()))) /\
  ((x.1=1/\Kl w/\m=Ei w (DM x.2.1).length/\k=(Bo N ts x.2.1).length/\d=(k:Int)/\l=[]/\ts.length+k<=400/\a=grown N ts (Bo N ts x.2.1)) \/
  (x.1=2/\Kl w/\m=Ei w (DM x.2.1).length/\k=(CK N ts x.2.1).length/\d=(k:Int)/\l=[]/\∃ g,Wf (((N:Int),(ts,())),CK N ts x.2.1,())=some (((N:Int),(a,())),g,0,())) \/
  (x.1=3/\m=0/\k=x.2.2.1.length/\d=0/\a=ts/\LC (((N:Int),(ts,())),x.2.2.1,())=some (l,0,())))
def stB(N:Nat)(ts a:List Tie)(d:Int)(r:ARC)(b c:Int):AO9:=if r.1=0 then ME N a (w64 (b+1)) (w64 (c+w64 d))else ME N ts b c
theorem AGB(h:RG2 N ts)(x:Ra)(w:NM)(t:Ek w.2.2.1->FO 60 w.2.2.1):∃ g u r,AO8 N ts x w g u r/\∀ b c,Kt (ME N ts b c,())=some (true,())->Ks (ME N ts b c,x,w,())=some (stB N ts g u r b c,r,()):=by
 have a:∀ {e:Int},e≠0->(∀ b c,IV (N:Int) ts b c x w (.inr ([e],())))->∃ g u r,AO8 N ts x w g u r/\∀ b c,Kt (ME N ts b c,())=some (true,())->Ks (ME N ts b c,x,w,())=some (stB N ts g u r b c,r,()):=
  fun {e} i hd=>⟨ts,0,(e,(0,([],()))),.inl ⟨e,i,rfl,rfl⟩,fun b c p=>by rw[AGA i p (hd b c),stB,ASH i]⟩
 have y:=h.ht;by_cases k:WR x;rotate_left;exact a (e:=1) (by omega) fun b c=>S_ (AEm (w:=w) (by omega) (fun q=>k q.2)) (by omega);by_cases z:∃ v∈D7 x,(N:Int)<=v;exact a (e:=10) (by omega) fun b c=>S_ (xO h k z) (by omega);have d:∀ v∈D7 x,v<(N:Int):=fun v C=>Int.not_le.1 fun q=>z ⟨v,C,q⟩;obtain⟨D,K,L⟩:=Tg k;have f:x.1=3\/x.1=1\/x.1=2:=by
  rcases k with⟨q|q,_⟩|⟨q,_⟩
  exact .inr (.inl q);exact .inr (.inr q);exact .inl q
 rcases f with f|f;have j:=xP h k d (w:=w) f;by_cases m:Ek w.2.2.1;obtain⟨U,q,_,_,_,n⟩:=t m (([]:List Edge).length+x.2.2.1.length) (by simp only[ASV];omega);obtain⟨l,e,A,E⟩:=jB h x.2.2.1 (by omega);have hd:=fun b c=>(lE (b:=b) (c:=c) j (by simp) (by omega) n).2.2 rfl _ _ A;by_cases i:e=0;subst i;simp only[ASh]at hd;refine⟨ts,(0:Int)+(q:Int),(0,(0,(l,()))),.inr ⟨0,(q:Int),x.2.2.1.length,nI U,0,l,m,k,d,?_,rfl,rfl,.inr (.inr ⟨f,rfl,rfl,rfl,rfl,A⟩)⟩,fun b c p=>MD p _ w (hd b c)⟩;simpa using n;simp only[ASH i]at hd;exact a i hd;exact a (e:=1) (by omega) fun b c=>AEH j (by simp) (by omega) (bD fun q=>m q.2.2) (by omega);·have j:=rK h k d (w:=w) f fun o=>(t o.2.2.2.2).mono D;by_cases o:Kl w;rotate_left;rw[ASH o]at j;exact a (e:=1) (by omega) fun b c=>S_ j (by omega);have m:=o.2.2.2.2;rw[ASL o]at j;have F:=zr N ts x.2.1;rcases f with f|f;rw[ASH (by omega)]at j;by_cases G:400-ts.length<(Bo N ts x.2.1).length;rw[ASL G]at j;exact a (e:=2) (by omega) fun b c=>S_ j (by omega);have H:=Vw N h.hN ts x.2.1;obtain⟨U,q,_,_,_,n⟩:=t m (Bo N ts x.2.1).length (by omega);refine⟨grown N ts (Bo N ts x.2.1),Ei w (DM x.2.1).length+(q:Int),(0,(((Bo N ts x.2.1).length:Int),([],()))),.inr ⟨_,(q:Int),_,nI U,_,_,m,k,d,n,rfl,rfl,.inl ⟨f,o,rfl,rfl,rfl,rfl,by omega,rfl⟩⟩,fun b c p => ?_⟩;obtain⟨M,P,s,y⟩:=AAt h p k d f o (t m) (by omega);rw[n]at s;simp only[ASA,AST]at s;rw[y,<- s.2.1];rfl;rw[ASL f]at j;have I:=La N h.hN ts x.2.1;obtain⟨U,q,_,_,_,n⟩:=t m ((CK N ts x.2.1).length+([]:List WN).length) (by simp only[ASV];omega);obtain⟨O,J,e,B,Q,_⟩:=oT h (CK N ts x.2.1) (by omega);have hd:=fun b c=>(lE (b:=b) (c:=c) j (by omega) (by simp) n).2.1 rfl _ _ _ _ B;by_cases i:e=0;subst i;simp only[ASh]at hd;exact⟨O,Ei w (DM x.2.1).length+(q:Int),(0,(((CK N ts x.2.1).length:Int),([],()))),.inr ⟨_,(q:Int),_,nI U,_,_,m,k,d,n,rfl,rfl,.inr (.inl ⟨f,o,rfl,rfl,rfl,rfl,J,B⟩)⟩,fun b c p=>MD p _ w (hd b c)⟩;simp only[ASH i]at hd;exact a i hd
end
open Tok
def lev(ts:List Tie):Int:=(ts.map fun t=>t.2.2.1).sum
theorem zI(a b:List Tie):lev (a++b)=lev a+lev b:=by unfold lev;rw[ASz,List.sum_append]
theorem EX(t:Tie)(b:List Tie):lev (t::b)=t.2.2.1+lev b:=by unfold lev;rw[ASQ,ATx]
theorem AP2(S:Int->Bool)(top i:Int)(hi:i<top):∀ ts:List Tie,lev (ts.map (rT S top i))=lev ts+(K3 S i ts:Int):=by
 intro ts;induction ts with
  |nil=>rfl
  |cons t ts c=>
   rw[ASQ,EX,EX,c];unfold K3;rw[AT6];by_cases h:t.2.2.2.1=true/\t.2.2.1=i/\both S t=true;have a:rT S top i t=FT top t:=ASL h;have d:(FT top t).2.2.1=min top (t.2.2.1+1):=rfl;have b:(t.2.2.2.1&&(decide (t.2.2.1=i)&&both S t))=true:=by rw[h.1,AR9 h.2.1,h.2.2];rfl
   rw[a,d,b,ASL rfl];omega;have a:rT S top i t=t:=ASH h;have b:(t.2.2.2.1&&(decide (t.2.2.1=i)&&both S t))=false:=by rw[Bool.eq_false_iff];intro q;rw[ASB,ASB,ASk]at q;exact h q
   rw[a,b,ASH (by simp)];omega
theorem AB1(S:Int->Bool)(top i:Int)(hi:i<top):∀ ts:List Tie,lev (Bw S top i ts).1=lev ts+((Bw S top i ts).2.1:Int):=by
 intro ts;induction ts with
  |nil=>rfl
  |cons t ts a=>
   rw[Bw];split;show lev (t::_)=_+((Bw S top i ts).2.1:Int)
   rw[EX,EX,a];omega;rename_i h;split;have b:(FT top t).2.2.1=min top (t.2.2.1+1):=rfl;show lev (FT top t::_)=_+(((Bw S top i ts).2.1+1:Nat):Int)
   rw[EX,EX,a,b];have:t.2.2.1=i:=by by_cases q:t.2.2.1=i;exact q;exact absurd (.inr q) h
   omega;split;show lev (EC t::ts)=lev (t::ts)+((0:Nat):Int)
   rw[EX,EX];have:(EC t).2.2.1=t.2.2.1:=rfl;omega;show lev (t::_)=_+((Bw S top i ts).2.1:Int)
   rw[EX,EX,a];omega
theorem AGI(N u v:Nat)(top:Int):∀ (m:Nat) (O:List Tie) (r:Nat),(m:Int)<=top->lev (JH N u v top m O r).1+(r:Int)=lev O+((JH N u v top m O r).2.2:Int):=by
 intro m;induction m with
  |zero=>intro O r _;rfl
  |succ m a=>intro O r b;have c:=AB1 (BV (B9 N O u v m)) top m (by omega) (O.map (rT (BV (B9 N O u v m)) top m));have d:=AP2 (BV (B9 N O u v m)) top m (by omega) O;rw[JH];split;simp only;omega;have:=a (Bw (BV (B9 N O u v m)) top m (O.map (rT (BV (B9 N O u v m)) top m))).1 (r+K3 (BV (B9 N O u v m)) m O+(Bw (BV (B9 N O u v m)) top m (O.map (rT (BV (B9 N O u v m)) top m))).2.1) (by omega);omega
theorem ADf{N:Nat}{ts:List Tie}(h:RG2 N ts){p:Nat}{t:Tie}(a:ts[p]? = some t)(e:t.2.2.1<(Bx N:Int)):lev (C3 N ts p t).1+t.2.2.1=lev ts+((C3 N ts p t).2.2:Int):=by
 have b:=(ASM.1 a).1;have c:ts=ts.take p++t::ts.drop (p+1):=by have d:ts[p]=t:=(ASM.1 a).2;conv=>lhs;rw[<- AS8 p ts,ASr b,d]
 have f:lev (ts.take p++ts.drop (p+1))+t.2.2.1=lev ts:=by
  conv=>rhs;rw[c]
  rw[zI,zI,EX];omega
 have g:=(h.tie (ASJ a)).2.2.2.1;unfold C3;split;have:=AGI N t.1.toNat t.2.1.toNat (Bx N:Int) (t.2.2.1.toNat+1) (ts.take p++ts.drop (p+1)) 0 (by omega);omega;simp only;omega
def CE(N:Nat)(O:List Tie):Int:=(O.map fun t=>(Bx N:Int)-t.2.2.1).sum
theorem Y6(N:Nat):∀ O:List Tie,CE N O=(Bx N:Int)*O.length-lev O:=by
 intro O;induction O with
  |nil=>simp[CE,lev]
  |cons t O a=>unfold CE at a |-;rw[ASQ,ATx,a,EX,ASK,Int.natCast_add,AUr];simp;omega
noncomputable def stG(N:Nat)(s:List Tie×Int×Int)(x:Edge):List Tie×Int×Int:=
 match s.1[s.1.findIdx (Db x.1 x.2.1)]? with
 |some t=>((C3 N s.1 (s.1.findIdx (Db x.1 x.2.1)) t).1,s.2.1+((C3 N s.1 (s.1.findIdx (Db x.1 x.2.1)) t).2.2:Int),s.2.2+((Bx N:Int)-t.2.2.1))
 |none=>s
theorem sv{N:Nat}{s:List Tie×Int×Int}{x:Edge}{k:Nat}{t:Tie}(a:s.1.findIdx (Db x.1 x.2.1)=k)(b:s.1[k]? = some t):stG N s x=((C3 N s.1 k t).1,s.2.1+((C3 N s.1 k t).2.2:Int),s.2.2+((Bx N:Int)-t.2.2.1)):=by unfold stG;rw[a,b]
noncomputable def goS(N:Nat)(ts:List Tie)(l:List Edge):List Tie×Int×Int:=l.foldl (stG N) (ts,0,0)
theorem ABr{N:Nat}{ts:List Tie}(h:RG2 N ts)(l:List Edge)(f:l.length<1073741824){O:List Tie}{w:List (Bool×Bool×Edge×Int×Unit)}(g:Wf (((N:Int),(ts,())),l,())=some (((N:Int),(O,())),w,0,())):O=(goS N ts (CK N ts l)).1:=by
 obtain⟨o,w',e,a,p,j⟩:=Zu h l f (fun i O=>O=(goS N ts ((CK N ts l).take i)).1) rfl (fun i x O k t c q d r m s n=>by
  have hi:=(ASM.1 c).1;have b:(CK N ts l).take (i+1)=(CK N ts l).take i++[x]:=by rw[ATc,c];rfl
  rw[b];unfold goS at d |-;rw[ATN];subst d;rw[AS2,List.foldl_nil,sv n m])
 rw[g]at a;simp only[ASA,AST]at a;obtain⟨⟨_,rfl,_⟩,_,rfl,_⟩:=a;have:=(j rfl).2;rwa [AS4 (ASG _)]at this
structure GoI(N:Nat)(ts:List Tie)(l:List Edge)(s:List Tie×Int×Int):Prop where
 rg:RG2 N s.1
 snd:Snd N (Bx N:Int) s.1
 eds:s.1.map ed=(ts.map ed).filter (fun e=>decide (e∉l))
 len:s.1.length+l.length=ts.length
 sp:CE N s.1+s.2.1+s.2.2=CE N ts
 ra:0<=s.2.1
 lo:0<=s.2.2/\s.2.2<=(Bx N:Int)*l.length
theorem GoI.nil{N:Nat}{ts:List Tie}(h:RG2 N ts)(a:Snd N (Bx N:Int) ts):GoI N ts [] (ts,0,0):=
 ⟨h,a,(ATK.2 fun _ _=>by simp).symm,by simp,by simp,by simp,by simp⟩
theorem GoI.step{N:Nat}{ts:List Tie}{l:List Edge}{s:List Tie×Int×Int}(h:GoI N ts l s){x:Edge}(r:x∈ts.map ed)(u:x∉l)(v:x.1<x.2.1):
  ∃ k t,s.1.findIdx (Db x.1 x.2.1)=k/\s.1[k]? = some t/\ed t=x/\GoI N ts (l++[x]) (stG N s x):=by
 have y:x∈s.1.map ed:=by rw[h.eds,ASa];exact⟨r,by simpa using u⟩
 obtain⟨z,j,m⟩:=ASS.1 y;have f:∃ t∈s.1,Db x.1 x.2.1 t=true:=by refine⟨z,j,?_⟩;unfold Db;rw[ASk,AUK (by omega),AUW (by omega),<- m];exact⟨rfl,rfl⟩
 have a:s.1.findIdx (Db x.1 x.2.1)<s.1.length:=AT1.2 f;generalize n:s.1.findIdx (Db x.1 x.2.1)=k at a;have d:s.1[k]? = some s.1[k]:=ASI a;generalize A:s.1[k]=t at d;have b:Db x.1 x.2.1 t=true:=by have:=List.findIdx_getElem (xs:=s.1) (p:=Db x.1 x.2.1) (w:=by rw[n];exact a);simp only[n,A]at this;exact this
 have g:ed t=x:=by unfold Db at b;rw[ASk,AUK (by omega),AUW (by omega)]at b;unfold ed;rw[b.1,b.2]
 have c:=ASJ d;have B:=h.rg.below h.snd c;have I:=(h.rg.tie c).2.2.2.1;have J:=ADf h.rg d B;obtain⟨C,D,E,_⟩:=ADe h.rg h.snd d;have i:(C3 N s.1 k t).1.length+1=s.1.length:=by have:=ASt List.length E;rw[ASZ,ASZ,ASN,ASp,ATX]at this;omega
 have F:CE N (C3 N s.1 k t).1+((C3 N s.1 k t).2.2:Int)+((Bx N:Int)-t.2.2.1)=CE N s.1:=by rw[Y6,Y6,<- i,Int.natCast_add,AUr];simp only[Int.cast_ofNat_Int,Int.mul_one];omega
 refine⟨k,t,rfl,d,g,?_⟩;rw[sv n d];have o:=h.sp;have G:=h.ra;have H:=h.lo;refine⟨C,D,?_,?_,by simp only;omega,by simp only;omega,?_⟩;show(C3 N s.1 k t).1.map ed=_;rw[aw h.rg d,h.eds,AUc];refine ATn fun e _ => ?_;rw[g,ATH];simp only[ASB,ASC,ASF,ASj,not_or];exact⟨fun q=>⟨q.2,q.1⟩,fun q=>⟨q.2,q.1⟩⟩;have:=h.len;simp only[ASN,AUJ];omega;simp only[ASN,AUJ];rw[Int.natCast_add,AUr];simp only[Int.cast_ofNat_Int,Int.mul_one];omega
theorem AJV{N:Nat}{ts:List Tie}(h:RG2 N ts)(g:Snd N (Bx N:Int) ts)(l:List Edge):∀ i,i<=(CK N ts l).length->GoI N ts ((CK N ts l).take i) (goS N ts ((CK N ts l).take i)):=by
 have b:=Jo N ts l;have c:=fun x=>VO (N:=N) (ts:=ts) (l:=l) (x:=x);generalize CK N ts l=xs at *;intro i;induction i with
  |zero=>intro _;rw[AUl];exact GoI.nil h g
  |succ i k=>
   intro hi;have m:xs[i]? = some xs[i]:=ASI (by omega);have d:xs.take (i+1)=xs.take i++[xs[i]]:=by rw[ATc,m];rfl
   have e:=c xs[i] (ASu _);have n:xs[i]∉xs.take i:=fun o=>by obtain⟨j,p,a⟩:=AS5 o;rw[ASp]at p;rw[List.getElem_take]at a;have:=AS7.1 b j i (by omega) (by omega) (by omega);rw[a]at this;unfold Cw at this;omega
   obtain⟨_,_,_,_,_,f⟩:=(k (by omega)).step e.2.2.2 n e.2.1;rw[d];unfold goS at f |-;rw[ATN];exact f
theorem ADY{N:Nat}{ts:List Tie}(h:RG2 N ts)(b:Snd N (Bx N:Int) ts)(l:List Edge):Snd N (Bx N:Int) (grown N ts l):=by
 have c:=EG h.hN;have d:=NV h.hN;refine b.grown (by omega) (Q8 N ts l) (gU h.hN ts l) (fun x a => ?_) ?_;unfold KB at a;obtain⟨i,hi,rfl⟩:=ASS.1 a;have hi:i<(Bo N ts l).length:=by simpa using hi
 refine⟨rfl,?_⟩;rw[APk,ASY,ASI hi];exact ASu hi;have:=fm N ts l;rw[Rm (VM h.hN h.oks l),Rm h.oks]at this;exact this
theorem Y7(N:Nat)(a b:List Tie):CE N (a++b)=CE N a+CE N b:=by unfold CE;rw[ASz,List.sum_append]
theorem nO(N:Nat){a b:List Tie}(h:a.Perm b):CE N a=CE N b:=by
 unfold CE;induction h with
  |nil=>rfl
  |cons x _ c=>rw[ASQ,ASQ,ATx,ATx,c]
  |swap x y l=>simp only[ASQ,ATx];omega
  |trans _ _ d e=>rw[d,e]
theorem nN(N:Nat):∀ a:List Tie,(∀ t∈a,t.2.2.1=0)->CE N a=(Bx N:Int)*a.length:=by
 intro a;induction a with
  |nil=>intro _;simp[CE]
  |cons t a c=>intro h;have b:=c fun x d=>h x (by simp[d]);have e:=h t (by simp);unfold CE at b |-;rw[ASQ,ATx,b,ASK,Int.natCast_add,AUr,e];simp;omega
theorem G3{N:Nat}(b:N<=64):∀ a:List Tie,(∀ t∈a,0<=t.2.2.1/\t.2.2.1<=(Bx N:Int))->0<=CE N a/\CE N a<=64*(a.length:Int):=by
 have:=MA b;intro a;induction a with
  |nil=>intro _;simp[CE]
  |cons t a c=>intro h;have d:=c fun x e=>h x (by simp[e]);have f:=h t (by simp);unfold CE at d |-;rw[ASQ,ATx,ASK];omega
theorem RG2.vg{N:Nat}{ts:List Tie}(h:RG2 N ts):∀ t∈ts,0<=t.2.2.1/\t.2.2.1<=(Bx N:Int):=fun t a=>by rw[<- EG h.hN];exact(h.tie a).2.2.2
theorem cH{N:Nat}(a:N<=64)(O:List Tie){t:Tie}(b:0<=t.2.2.1/\t.2.2.1<=(Bx N:Int)):cJ (((N:Int),(O,())),t,())=some ((Bx N:Int)-t.2.2.1,()):=by have:=MA a;rw[gd,cI];simp only[SV N a,EG a];rw[BG (by omega)]
theorem J6{N:Nat}{O:List Tie}(h:RG2 N O):Gr (((N:Int),(O,())),())=some (CE N O,()):=by
 have f:=h.ht;have a:=h.hN;have g:=h.vg;rw[gf,cP]
 have e:=GP (step:=Lp) (fun i=>((N:Int),O,CE N (O.take i),O,(O.length:Int),(i:Int),())) O.length (.inl (CE N O,())) (by omega)
  (fun i hi=>by
   have b:O[i]? = some O[i]:=ASI hi
   have c:O.take (i+1)=O.take i++[O[i]]:=by rw[ATc,b];rfl
   have l:=G3 a (O.take i) fun t f=>g t (List.mem_of_mem_take f)
   rw[ASp]at l
   have d:=g _ (ASu hi)
   have:=MA a
   have j:=cH a O d
   rw[c,Y7]
   generalize O[i]=x at b d j
   obtain⟨m,n,k,o,⟨⟩⟩:=x
   rw[Lp,A2,AR9 hi]
   simp only[A' b,j]
   rw[A5 (by omega),BG (by simp only at d |-;omega)]
   have:CE N [(m,(n,(k,(o,()))))]=(Bx N:Int)-k:=by simp[CE]
   rw[this])
  (by rw[Lp,A2,AR8 (by omega),AS4 (ASG _)])
 have p:A9 Lp many ((N:Int),O,(0:Int),O,(O.length:Int),(0:Int),())=_:=e;simp only[h.lr,ASE,A6,p]
theorem AE9{N:Nat}{ts:List Tie}(h:RG2 N ts)(P:Snd N (Bx N:Int) ts)(g:List Edge):
  zu ((N:Int),ts,0,0,0,0,0,CK N ts g,())=some ((N:Int),(goS N ts (CK N ts g)).1,0,((CK N ts g).length:Int),(goS N ts (CK N ts g)).2.1,(goS N ts (CK N ts g)).2.2,0,()):=by
 have p:=h.hN;have Z:=h.ht;have u:=AJV h P g;have Q:=La N p ts g;have v:=Jo N ts g;have w:=fun x=>VO (N:=N) (ts:=ts) (l:=g) (x:=x);have F:=MA p;have R:=G3 p ts h.vg;generalize CK N ts g=xs at *
 have e:=GP (step:=Ol) (fun i=>((N:Int),(goS N ts (xs.take i)).1,(0:Int),(i:Int),(goS N ts (xs.take i)).2.1,(goS N ts (xs.take i)).2.2,(0:Int),xs,(xs.length:Int),(i:Int),())) xs.length
  (.inr (.inl ((N:Int),(goS N ts xs).1,0,(xs.length:Int),(goS N ts xs).2.1,(goS N ts xs).2.2,0,()))) (by omega)
  (fun i hi=>by
   have G:xs[i]? = some xs[i]:=ASI hi
   have y:xs.take (i+1)=xs.take i++[xs[i]]:=by rw[ATc,G];rfl
   have H:=w xs[i] (ASu hi)
   have S:xs[i]∉xs.take i:=fun T=>by
    obtain⟨j,U,r⟩:=AS5 T
    rw[ASp]at U
    rw[List.getElem_take]at r
    have:=AS7.1 v j i (by omega) (by omega) (by omega)
    rw[r]at this
    unfold Cw at this
    omega
   have n:=u i (by omega)
   obtain⟨k,t,z,q,A,m⟩:=n.step H.2.2.2 S H.2.1
   have B:=sv (N:=N) z q
   have C:goS N ts (xs.take (i+1))=stG N (goS N ts (xs.take i)) xs[i]:=by
    rw[y];unfold goS;rw[ATN];rfl
   have b:=G3 p _ m.rg.vg
   have I:=G3 p _ n.rg.vg
   have c:=m.lo
   have d:=m.ra
   have f:=m.sp
   have J:=n.lo
   have K:=n.ra
   have L:=n.sp
   rw[C]
   generalize goS N ts (xs.take i)=s at *
   have V:=(ASM.1 q).1
   have o:s.1.any (Db xs[i].1 xs[i].2.1)=true:=by
    refine ATZ.2 ⟨t,ASJ q,?_⟩
    unfold Db
    rw[ASk,AUK (by omega),AUW (by omega),<- A]
    exact⟨rfl,rfl⟩
   have M:=fZ n.rg xs[i].1 xs[i].2.1
   rw[o,ASL rfl,z]at M
   have O:=n.rg.vg t (ASJ q)
   have W:=cH p s.1 O
   have X:c9 (((N:Int),(s.1,())),xs[i].1,xs[i].2.1,())=some ((N:Int),(C3 N s.1 k t).1,AFa t.2.2.2.1 (C3 N s.1 k t).2.1 (C3 N s.1 k t).2.2,0,()):=by
    rcases oJ n.rg xs[i].1 xs[i].2.1 with⟨a,_⟩|⟨_,a,_⟩|⟨_,_,t',D,e⟩
    ·exact absurd ⟨⟨by omega,by omega⟩,by omega,by omega⟩ a
    ·rw[o]at a;cases a
    ·rw[z]at D e
     rw[q]at D
     cases D
     exact e
   rw[B]at c d f b |-
   simp only at c d f b
   generalize xs[i]=x at *
   obtain⟨t1,t2,t3,t4,⟨⟩⟩:=t
   rw[Ol,A2,AR9 hi]
   have E:ilt (k:Int) 0=false:=by rw[BC,AR8 (by omega)]
   simp only at c d f b O
   simp only[A' G,M,E,A' q,W,X,AFa]
   rw[A5 (by omega),BG (by omega),BG (by omega)])
  (by rw[Ol,A2,AR8 (by omega),AS4 (ASG _)])
 have Y:A9 Ol many ((N:Int),ts,(0:Int),(0:Int),(0:Int),(0:Int),(0:Int),xs,(xs.length:Int),(0:Int),())=_:=e;rw[rj,mN];simp only[A6,Y]
abbrev PgT:=Int×Int×Int×Int×Int×Unit
theorem ANO{xs:List Edge}{bs:List Bool}{n:Nat}:∀ t∈KB xs bs n,t.2.2.1=0:=fun t a=>by unfold KB at a;obtain⟨i,_,rfl⟩:=ASS.1 a;rfl
def AR4(N:Nat)(ts f:List Tie)(k:Int)(e:Int)(p:PgT):Prop:=
 (e≠0->f=ts/\p=(0,(0,(0,(0,(0,())))))) /\
 (e=0->∃ b c a d:Int,p=(b,(c,(a,(d,(CE N f,())))))/\0<=b/\b<=400/\0<=c/\0<=a/\0<=d/\CE N ts+(Bx N:Int)*b=CE N f+a+d /\
  (f.length:Int)+c=ts.length+b/\d<=(Bx N:Int)*c/\(k≠2->c=0/\a=0))
theorem AIP{N:Nat}{ts:List Tie}(h:RG2 N ts)(D:Snd N (Bx N:Int) ts)(x:Ra)(w:NM)(hF:Ek w.2.2.1->FO 60 w.2.2.1):
  ∃ a E r p,AO8 N ts x w a E r/\(∀ b c,Kt (ME N ts b c,())=some (true,())->Ks (ME N ts b c,x,w,())=some (stB N ts a E r b c,r,())) /\
   DN (((N:Int),(ts,())),x,w,())=some (((N:Int),(a,())),p,r.1,())/\RG2 N a/\Snd N (Bx N:Int) a/\AR4 N ts a x.1 r.1 p:=by
 obtain⟨a,E,r,F,f⟩:=AGB h x w hF;have hN:=h.hN;have htl:=h.ht;have j:=f 0 0 (ADN h (by omega) (by omega));refine⟨a,E,r,?_⟩;have M:∀ z:Int,ieq z z=true:=Dh;rcases F with⟨e,t,rfl,rfl⟩|G;refine⟨(0,(0,(0,(0,(0,()))))),.inl ⟨e,t,rfl,rfl⟩,f,?_,h,D,fun _=>⟨rfl,rfl⟩,fun q=>absurd q t⟩;obtain⟨O,P,Q,⟨⟩⟩:=x;obtain⟨R,S,⟨T,V,W,⟨⟩⟩,⟨⟩⟩:=w;rw[Om,Pa];simp only[ME]at j;simp only[j];rw[BB,AR8 t];simp only[ASf];have F:AO8 N ts x w a E r:=.inr G;obtain⟨m,q,k,U,ch,l,hp,hw,hv,hf,hmq,K,hc⟩:=G;have n:r.1=0:=by rw[K]
 rw[stB,ASL n]at j;rcases hc with⟨o,_,_,d,s,hl,H,g⟩|⟨o,_,_,d,s,hl,wh,X⟩|⟨o,_,d,s,g,_⟩
 have C:RG2 N a:=by rw[g];exact h.grown (l:=Bo N ts x.2.1) (by rw[RM,<- d];exact H)
 have L:Snd N (Bx N:Int) a:=by rw[g];exact ADY h D _
 have u:=Q8 N ts (Bo N ts x.2.1);rw[RM]at u;have v:a.length=ts.length+k:=by rw[g,u.length_eq,d];simp only[KB,ASN,ASZ,ASP]
 have y:CE N a=CE N ts+(Bx N:Int)*(k:Int):=by rw[g,nO N u,Y7,nN N (KB _ _ _) ANO];simp only[KB,ASZ,ASP,d]
 refine⟨(ch,(0,(0,(0,(CE N a,()))))),F,f,?_,C,L,fun q=>absurd n q,fun _=>⟨ch,0,0,0,rfl,by omega,by omega,by omega,by omega,by omega,by rw[y,s];omega,by rw[s,v];omega,by simp,fun _=>⟨rfl,rfl⟩⟩⟩;have i:=J6 C;obtain⟨O,P,Q,⟨⟩⟩:=x;obtain⟨R,S,⟨T,V,W,⟨⟩⟩,⟨⟩⟩:=w;simp only at o;subst o;rw[Om,Pa];simp only[ME]at j;simp only[j];rw[K];simp only[M,ASE,i];have hO:=ABr h _ (by have:=La N hN ts x.2.1;omega) X;rw[v7]at hO;have A:=AJV h D x.2.1 (CK N ts x.2.1).length (ASG _);rw[AS4 (ASG _)]at A;have I:=AE9 h D x.2.1;have v:=A.len;have y:=A.sp;have Y:=A.ra;have J:=A.lo;have C:=A.rg;have L:=A.snd;rw[<- hO]at C L v y;have hgl:=La N hN ts x.2.1;obtain⟨l1,l2,l3⟩:=Tg hw;have B:∀ e∈x.2.1,In (N:Int) e.1/\In (N:Int) e.2.1:=fun e t=>by have hf:=l3 e t;have m1:=hv e.1 (ASF.2 (.inl (AT5.2 ⟨e,t,by simp⟩)));have m2:=hv e.2.1 (ASF.2 (.inl (AT5.2 ⟨e,t,by simp⟩)));have:=h.h1;unfold Kw at hf;unfold In;omega
 have Z:=UG h x.2.1 (by omega);rw[ASL B]at Z;refine⟨(0,((k:Int),((goS N ts (CK N ts x.2.1)).2.1,((goS N ts (CK N ts x.2.1)).2.2,(CE N a,()))))),F,f,?_,C,L,fun q=>absurd n q,fun _=>⟨0,_,_,_,rfl,by omega,by omega,by omega,Y,J.1,by omega,by rw[d];omega,by rw[d];exact J.2,fun q=>absurd o q⟩⟩;have i:=J6 C;obtain⟨O,P,Q,⟨⟩⟩:=x;obtain⟨R,S,⟨T,V,W,⟨⟩⟩,⟨⟩⟩:=w;simp only at o;subst o;rw[Om,Pa];simp only[ME]at j;simp only[j];rw[K];simp only at Z I d;have n1:ieq (2:Int) (1:Int)=false:=by rw[BB];rfl
 simp only[M,ASE,n1,Z,I,i,d];subst g;refine⟨(0,(0,(0,(0,(CE N a,()))))),F,f,?_,h,D,fun q=>absurd n q,fun _=>⟨0,0,0,0,rfl,by omega,by omega,by omega,by omega,by omega,by omega,by omega,by simp,fun _=>⟨rfl,rfl⟩⟩⟩;have i:=J6 h;obtain⟨O,P,Q,⟨⟩⟩:=x;obtain⟨R,S,⟨T,V,W,⟨⟩⟩,⟨⟩⟩:=w;simp only at o;subst o;rw[Om,Pa];simp only[ME]at j;simp only[j];rw[K];have n1:ieq (3:Int) (1:Int)=false:=by rw[BB];rfl
 have n2:ieq (3:Int) (2:Int)=false:=by rw[BB];rfl
 simp only[M,ASE,n1,n2,i]
abbrev P5:=Int×Int×Int×Int×Int×Unit
def odN(x:Int):Bool:=decide (x<0\/1073741824<x)
def AR0(p:P5):Bool:=odN p.1||(odN p.2.1||(odN p.2.2.1||(odN p.2.2.2.1||odN p.2.2.2.2.1)))
def APE:P5:=(0,0,0,0,0,())
def AR2(a x:P5):P5:=(a.1+x.1,a.2.1+x.2.1,a.2.2.1+x.2.2.1,a.2.2.2.1+x.2.2.2.1,x.2.2.2.2.1,())
def ARs(xs:List P5)(a:P5):P5:=xs.foldl AR2 a
def tot(xs:List P5):P5×Int×Unit:=if decide (1000<xs.length)||xs.any AR0 then(APE,1,())else(ARs xs APE,0,())
theorem AFJ:Po ()=some (((8:Int),((4:Int),(((2:Int),((2:Int),(([]:List (List Int)),()))),()))),()):=by rw[show Po () = @Po idI ()from ASt (fun i=>@Po i ()) Dn];kernel_rfl
theorem ALH:DN (((6:Int),(([]:List (Int×Int×Int×Bool×Unit)),())),((1:Int),(([((0:Int),((1:Int),())),((1:Int),((2:Int),())),((2:Int),((0:Int),())),((3:Int),((4:Int),())),((4:Int),((5:Int),())),((5:Int),((3:Int),())),((2:Int),((3:Int),()))]:List (Int×Int×Unit)),(([]:List (Int×Int×Int×Unit)),()))),((8:Int),((4:Int),(((2:Int),((2:Int),(([]:List (List Int)),()))),()))),())=some (((6:Int),(([(0,(1,(0,(true,())))),(0,(2,(0,(true,())))),(1,(2,(0,(false,())))),(2,(3,(0,(true,())))),(3,(4,(0,(true,())))),(3,(5,(0,(true,())))),(4,(5,(0,(false,()))))]:List (Int×Int×Int×Bool×Unit)),())),((7,(0,(0,(0,(21,())))))),0,()):=by rw[show DN (((6:Int),(([]:List (Int×Int×Int×Bool×Unit)),())),((1:Int),(([((0:Int),((1:Int),())),((1:Int),((2:Int),())),((2:Int),((0:Int),())),((3:Int),((4:Int),())),((4:Int),((5:Int),())),((5:Int),((3:Int),())),((2:Int),((3:Int),()))]:List (Int×Int×Unit)),(([]:List (Int×Int×Int×Unit)),()))),((8:Int),((4:Int),(((2:Int),((2:Int),(([]:List (List Int)),()))),()))),()) = @DN idI (((6:Int),(([]:List (Int×Int×Int×Bool×Unit)),())),((1:Int),(([((0:Int),((1:Int),())),((1:Int),((2:Int),())),((2:Int),((0:Int),())),((3:Int),((4:Int),())),((4:Int),((5:Int),())),((5:Int),((3:Int),())),((2:Int),((3:Int),()))]:List (Int×Int×Unit)),(([]:List (Int×Int×Int×Unit)),()))),((8:Int),((4:Int),(((2:Int),((2:Int),(([]:List (List Int)),()))),()))),())from ASt (fun i=>@DN i (((6:Int),(([]:List (Int×Int×Int×Bool×Unit)),())),((1:Int),(([((0:Int),((1:Int),())),((1:Int),((2:Int),())),((2:Int),((0:Int),())),((3:Int),((4:Int),())),((4:Int),((5:Int),())),((5:Int),((3:Int),())),((2:Int),((3:Int),()))]:List (Int×Int×Unit)),(([]:List (Int×Int×Int×Unit)),()))),((8:Int),((4:Int),(((2:Int),((2:Int),(([]:List (List Int)),()))),()))),())) Dn];kernel_rfl
theorem ALG:DN (((6:Int),(([(0,(1,(0,(true,())))),(0,(2,(0,(true,())))),(1,(2,(0,(false,())))),(2,(3,(0,(true,())))),(3,(4,(0,(true,())))),(3,(5,(0,(true,())))),(4,(5,(0,(false,()))))]:List (Int×Int×Int×Bool×Unit)),())),((2:Int),(([((3:Int),((2:Int),())),((0:Int),((1:Int),())),((0:Int),((5:Int),()))]:List (Int×Int×Unit)),(([]:List (Int×Int×Int×Unit)),()))),((8:Int),((4:Int),(((2:Int),((2:Int),(([]:List (List Int)),()))),()))),())=some (((6:Int),(([(0,(2,(1,(true,())))),(1,(2,(1,(true,())))),(3,(4,(0,(true,())))),(3,(5,(0,(true,())))),(4,(5,(0,(false,()))))]:List (Int×Int×Int×Bool×Unit)),())),((0,(2,(2,(6,(13,())))))),0,()):=by rw[show DN (((6:Int),(([(0,(1,(0,(true,())))),(0,(2,(0,(true,())))),(1,(2,(0,(false,())))),(2,(3,(0,(true,())))),(3,(4,(0,(true,())))),(3,(5,(0,(true,())))),(4,(5,(0,(false,()))))]:List (Int×Int×Int×Bool×Unit)),())),((2:Int),(([((3:Int),((2:Int),())),((0:Int),((1:Int),())),((0:Int),((5:Int),()))]:List (Int×Int×Unit)),(([]:List (Int×Int×Int×Unit)),()))),((8:Int),((4:Int),(((2:Int),((2:Int),(([]:List (List Int)),()))),()))),()) = @DN idI (((6:Int),(([(0,(1,(0,(true,())))),(0,(2,(0,(true,())))),(1,(2,(0,(false,())))),(2,(3,(0,(true,())))),(3,(4,(0,(true,())))),(3,(5,(0,(true,())))),(4,(5,(0,(false,()))))]:List (Int×Int×Int×Bool×Unit)),())),((2:Int),(([((3:Int),((2:Int),())),((0:Int),((1:Int),())),((0:Int),((5:Int),()))]:List (Int×Int×Unit)),(([]:List (Int×Int×Int×Unit)),()))),((8:Int),((4:Int),(((2:Int),((2:Int),(([]:List (List Int)),()))),()))),())from ASt (fun i=>@DN i (((6:Int),(([(0,(1,(0,(true,())))),(0,(2,(0,(true,())))),(1,(2,(0,(false,())))),(2,(3,(0,(true,())))),(3,(4,(0,(true,())))),(3,(5,(0,(true,())))),(4,(5,(0,(false,()))))]:List (Int×Int×Int×Bool×Unit)),())),((2:Int),(([((3:Int),((2:Int),())),((0:Int),((1:Int),())),((0:Int),((5:Int),()))]:List (Int×Int×Unit)),(([]:List (Int×Int×Int×Unit)),()))),((8:Int),((4:Int),(((2:Int),((2:Int),(([]:List (List Int)),()))),()))),())) Dn];kernel_rfl
theorem AK6:Ib (([(1:Int),(0:Int),(2:Int),(0:Int),(0:Int),(0:Int),(1:Int),(0:Int),(0:Int),(0:Int),(2:Int),(1:Int),(0:Int),(1:Int),(0:Int),(0:Int),(0:Int),(9:Int),(2:Int),(0:Int),(1:Int),(0:Int),(0:Int),(0:Int),(1:Int),(8:Int)]:List (Int)),())=some (([((1:Int),(([((0:Int),((1:Int),())),((0:Int),((2:Int),()))]:List (Int×Int×Unit)),(([]:List (Int×Int×Int×Unit)),()))),((1:Int),(([((0:Int),((9:Int),()))]:List (Int×Int×Unit)),(([]:List (Int×Int×Int×Unit)),()))),((2:Int),(([((0:Int),((1:Int),()))]:List (Int×Int×Unit)),(([]:List (Int×Int×Int×Unit)),())))]:List (Int×(List (Int×Int×Unit))×(List (Int×Int×Int×Unit))×Unit)),(25:Int),(8:Int),()):=by rw[show Ib (([(1:Int),(0:Int),(2:Int),(0:Int),(0:Int),(0:Int),(1:Int),(0:Int),(0:Int),(0:Int),(2:Int),(1:Int),(0:Int),(1:Int),(0:Int),(0:Int),(0:Int),(9:Int),(2:Int),(0:Int),(1:Int),(0:Int),(0:Int),(0:Int),(1:Int),(8:Int)]:List (Int)),()) = @Ib idI (([(1:Int),(0:Int),(2:Int),(0:Int),(0:Int),(0:Int),(1:Int),(0:Int),(0:Int),(0:Int),(2:Int),(1:Int),(0:Int),(1:Int),(0:Int),(0:Int),(0:Int),(9:Int),(2:Int),(0:Int),(1:Int),(0:Int),(0:Int),(0:Int),(1:Int),(8:Int)]:List (Int)),())from ASt (fun i=>@Ib i (([(1:Int),(0:Int),(2:Int),(0:Int),(0:Int),(0:Int),(1:Int),(0:Int),(0:Int),(0:Int),(2:Int),(1:Int),(0:Int),(1:Int),(0:Int),(0:Int),(0:Int),(9:Int),(2:Int),(0:Int),(1:Int),(0:Int),(0:Int),(0:Int),(1:Int),(8:Int)]:List (Int)),())) Dn];kernel_rfl
theorem ALE:DN (((6:Int),(([]:List (Int×Int×Int×Bool×Unit)),())),((1:Int),(([((0:Int),((1:Int),())),((0:Int),((2:Int),()))]:List (Int×Int×Unit)),(([]:List (Int×Int×Int×Unit)),()))),((8:Int),((4:Int),(((2:Int),((2:Int),(([]:List (List Int)),()))),()))),())=some (((6:Int),(([(0,(1,(0,(true,())))),(0,(2,(0,(true,()))))]:List (Int×Int×Int×Bool×Unit)),())),((2,(0,(0,(0,(6,())))))),0,()):=by rw[show DN (((6:Int),(([]:List (Int×Int×Int×Bool×Unit)),())),((1:Int),(([((0:Int),((1:Int),())),((0:Int),((2:Int),()))]:List (Int×Int×Unit)),(([]:List (Int×Int×Int×Unit)),()))),((8:Int),((4:Int),(((2:Int),((2:Int),(([]:List (List Int)),()))),()))),()) = @DN idI (((6:Int),(([]:List (Int×Int×Int×Bool×Unit)),())),((1:Int),(([((0:Int),((1:Int),())),((0:Int),((2:Int),()))]:List (Int×Int×Unit)),(([]:List (Int×Int×Int×Unit)),()))),((8:Int),((4:Int),(((2:Int),((2:Int),(([]:List (List Int)),()))),()))),())from ASt (fun i=>@DN i (((6:Int),(([]:List (Int×Int×Int×Bool×Unit)),())),((1:Int),(([((0:Int),((1:Int),())),((0:Int),((2:Int),()))]:List (Int×Int×Unit)),(([]:List (Int×Int×Int×Unit)),()))),((8:Int),((4:Int),(((2:Int),((2:Int),(([]:List (List Int)),()))),()))),())) Dn];kernel_rfl
theorem ALC:DN (((6:Int),(([(0,(1,(0,(true,())))),(0,(2,(0,(true,()))))]:List (Int×Int×Int×Bool×Unit)),())),((1:Int),(([((0:Int),((9:Int),()))]:List (Int×Int×Unit)),(([]:List (Int×Int×Int×Unit)),()))),((8:Int),((4:Int),(((2:Int),((2:Int),(([]:List (List Int)),()))),()))),())=some (((6:Int),(([(0,(1,(0,(true,())))),(0,(2,(0,(true,()))))]:List (Int×Int×Int×Bool×Unit)),())),((0,(0,(0,(0,(0,())))))),10,()):=by rw[show DN (((6:Int),(([(0,(1,(0,(true,())))),(0,(2,(0,(true,()))))]:List (Int×Int×Int×Bool×Unit)),())),((1:Int),(([((0:Int),((9:Int),()))]:List (Int×Int×Unit)),(([]:List (Int×Int×Int×Unit)),()))),((8:Int),((4:Int),(((2:Int),((2:Int),(([]:List (List Int)),()))),()))),()) = @DN idI (((6:Int),(([(0,(1,(0,(true,())))),(0,(2,(0,(true,()))))]:List (Int×Int×Int×Bool×Unit)),())),((1:Int),(([((0:Int),((9:Int),()))]:List (Int×Int×Unit)),(([]:List (Int×Int×Int×Unit)),()))),((8:Int),((4:Int),(((2:Int),((2:Int),(([]:List (List Int)),()))),()))),())from ASt (fun i=>@DN i (((6:Int),(([(0,(1,(0,(true,())))),(0,(2,(0,(true,()))))]:List (Int×Int×Int×Bool×Unit)),())),((1:Int),(([((0:Int),((9:Int),()))]:List (Int×Int×Unit)),(([]:List (Int×Int×Int×Unit)),()))),((8:Int),((4:Int),(((2:Int),((2:Int),(([]:List (List Int)),()))),()))),())) Dn];kernel_rfl
theorem ALD:DN (((6:Int),(([(0,(1,(0,(true,())))),(0,(2,(0,(true,()))))]:List (Int×Int×Int×Bool×Unit)),())),((2:Int),(([((0:Int),((1:Int),()))]:List (Int×Int×Unit)),(([]:List (Int×Int×Int×Unit)),()))),((8:Int),((4:Int),(((2:Int),((2:Int),(([]:List (List Int)),()))),()))),())=some (((6:Int),(([(0,(2,(0,(true,()))))]:List (Int×Int×Int×Bool×Unit)),())),((0,(1,(0,(3,(3,())))))),0,()):=by rw[show DN (((6:Int),(([(0,(1,(0,(true,())))),(0,(2,(0,(true,()))))]:List (Int×Int×Int×Bool×Unit)),())),((2:Int),(([((0:Int),((1:Int),()))]:List (Int×Int×Unit)),(([]:List (Int×Int×Int×Unit)),()))),((8:Int),((4:Int),(((2:Int),((2:Int),(([]:List (List Int)),()))),()))),()) = @DN idI (((6:Int),(([(0,(1,(0,(true,())))),(0,(2,(0,(true,()))))]:List (Int×Int×Int×Bool×Unit)),())),((2:Int),(([((0:Int),((1:Int),()))]:List (Int×Int×Unit)),(([]:List (Int×Int×Int×Unit)),()))),((8:Int),((4:Int),(((2:Int),((2:Int),(([]:List (List Int)),()))),()))),())from ASt (fun i=>@DN i (((6:Int),(([(0,(1,(0,(true,())))),(0,(2,(0,(true,()))))]:List (Int×Int×Int×Bool×Unit)),())),((2:Int),(([((0:Int),((1:Int),()))]:List (Int×Int×Unit)),(([]:List (Int×Int×Int×Unit)),()))),((8:Int),((4:Int),(((2:Int),((2:Int),(([]:List (List Int)),()))),()))),())) Dn];kernel_rfl
theorem ALI:Cu (((6:Int),(([]:List (Int×Int×Int×Bool×Unit)),())),())=some (true,()):=by rw[show Cu (((6:Int),(([]:List (Int×Int×Int×Bool×Unit)),())),()) = @Cu idI (((6:Int),(([]:List (Int×Int×Int×Bool×Unit)),())),())from ASt (fun i=>@Cu i (((6:Int),(([]:List (Int×Int×Int×Bool×Unit)),())),())) Dn];kernel_rfl
theorem ALB:E3 ((6:Int),([]:List (Int×Int×Int×Bool×Unit)),(8:Int),(4:Int),(2:Int),(2:Int),([]:List (List Int)),(0:Int),(8:Int),([]:List (Int×Int×Int×Int×Int×Unit)),([((1:Int),(([((0:Int),((1:Int),())),((0:Int),((2:Int),()))]:List (Int×Int×Unit)),(([]:List (Int×Int×Int×Unit)),()))),((1:Int),(([((0:Int),((9:Int),()))]:List (Int×Int×Unit)),(([]:List (Int×Int×Int×Unit)),()))),((2:Int),(([((0:Int),((1:Int),()))]:List (Int×Int×Unit)),(([]:List (Int×Int×Int×Unit)),())))]:List (Int×(List (Int×Int×Unit))×(List (Int×Int×Int×Unit))×Unit)),(3:Int),(0:Int),())=some (.inl ((6:Int),([(0,(1,(0,(true,())))),(0,(2,(0,(true,()))))]:List (Int×Int×Int×Bool×Unit)),(8:Int),(4:Int),(2:Int),(2:Int),([]:List (List Int)),(0:Int),(8:Int),([((2:Int),((0:Int),((0:Int),((0:Int),((6:Int),())))))]:List (Int×Int×Int×Int×Int×Unit)),([((1:Int),(([((0:Int),((1:Int),())),((0:Int),((2:Int),()))]:List (Int×Int×Unit)),(([]:List (Int×Int×Int×Unit)),()))),((1:Int),(([((0:Int),((9:Int),()))]:List (Int×Int×Unit)),(([]:List (Int×Int×Int×Unit)),()))),((2:Int),(([((0:Int),((1:Int),()))]:List (Int×Int×Unit)),(([]:List (Int×Int×Int×Unit)),())))]:List (Int×(List (Int×Int×Unit))×(List (Int×Int×Int×Unit))×Unit)),(3:Int),(1:Int),())):=by rw[E3,show ilt (0:Int) 3=true from BC _ _];simp only[show idx ([((1:Int),(([((0:Int),((1:Int),())),((0:Int),((2:Int),()))]:List (Int×Int×Unit)),(([]:List (Int×Int×Int×Unit)),()))),((1:Int),(([((0:Int),((9:Int),()))]:List (Int×Int×Unit)),(([]:List (Int×Int×Int×Unit)),()))),((2:Int),(([((0:Int),((1:Int),()))]:List (Int×Int×Unit)),(([]:List (Int×Int×Int×Unit)),())))]:List (Int×(List (Int×Int×Unit))×(List (Int×Int×Int×Unit))×Unit)) (0:Int)=some ((1:Int),(([((0:Int),((1:Int),())),((0:Int),((2:Int),()))]:List (Int×Int×Unit)),(([]:List (Int×Int×Int×Unit)),())))from idx_eq _ _,ALE,show ieq (0:Int) 0=true from Cd _ _,show fits (A4 ([]:List (Int×Int×Int×Int×Int×Unit))+A4 ([((2:Int),((0:Int),((0:Int),((0:Int),((6:Int),())))))]:List (Int×Int×Int×Int×Int×Unit)))=true from kq _];rfl
theorem ALA:E3 ((6:Int),([(0,(1,(0,(true,())))),(0,(2,(0,(true,()))))]:List (Int×Int×Int×Bool×Unit)),(8:Int),(4:Int),(2:Int),(2:Int),([]:List (List Int)),(0:Int),(8:Int),([((2:Int),((0:Int),((0:Int),((0:Int),((6:Int),())))))]:List (Int×Int×Int×Int×Int×Unit)),([((1:Int),(([((0:Int),((1:Int),())),((0:Int),((2:Int),()))]:List (Int×Int×Unit)),(([]:List (Int×Int×Int×Unit)),()))),((1:Int),(([((0:Int),((9:Int),()))]:List (Int×Int×Unit)),(([]:List (Int×Int×Int×Unit)),()))),((2:Int),(([((0:Int),((1:Int),()))]:List (Int×Int×Unit)),(([]:List (Int×Int×Int×Unit)),())))]:List (Int×(List (Int×Int×Unit))×(List (Int×Int×Int×Unit))×Unit)),(3:Int),(1:Int),())=some (.inl ((6:Int),([(0,(1,(0,(true,())))),(0,(2,(0,(true,()))))]:List (Int×Int×Int×Bool×Unit)),(8:Int),(4:Int),(2:Int),(2:Int),([]:List (List Int)),(0:Int),(8:Int),([((2:Int),((0:Int),((0:Int),((0:Int),((6:Int),())))))]:List (Int×Int×Int×Int×Int×Unit)),([((1:Int),(([((0:Int),((1:Int),())),((0:Int),((2:Int),()))]:List (Int×Int×Unit)),(([]:List (Int×Int×Int×Unit)),()))),((1:Int),(([((0:Int),((9:Int),()))]:List (Int×Int×Unit)),(([]:List (Int×Int×Int×Unit)),()))),((2:Int),(([((0:Int),((1:Int),()))]:List (Int×Int×Unit)),(([]:List (Int×Int×Int×Unit)),())))]:List (Int×(List (Int×Int×Unit))×(List (Int×Int×Int×Unit))×Unit)),(3:Int),(2:Int),())):=by rw[E3,show ilt (1:Int) 3=true from BC _ _];simp only[show idx ([((1:Int),(([((0:Int),((1:Int),())),((0:Int),((2:Int),()))]:List (Int×Int×Unit)),(([]:List (Int×Int×Int×Unit)),()))),((1:Int),(([((0:Int),((9:Int),()))]:List (Int×Int×Unit)),(([]:List (Int×Int×Int×Unit)),()))),((2:Int),(([((0:Int),((1:Int),()))]:List (Int×Int×Unit)),(([]:List (Int×Int×Int×Unit)),())))]:List (Int×(List (Int×Int×Unit))×(List (Int×Int×Int×Unit))×Unit)) (1:Int)=some ((1:Int),(([((0:Int),((9:Int),()))]:List (Int×Int×Unit)),(([]:List (Int×Int×Int×Unit)),())))from idx_eq _ _,ALC,show ieq (10:Int) 0=false from Cd _ _];rfl
theorem AK9:E3 ((6:Int),([(0,(1,(0,(true,())))),(0,(2,(0,(true,()))))]:List (Int×Int×Int×Bool×Unit)),(8:Int),(4:Int),(2:Int),(2:Int),([]:List (List Int)),(0:Int),(8:Int),([((2:Int),((0:Int),((0:Int),((0:Int),((6:Int),())))))]:List (Int×Int×Int×Int×Int×Unit)),([((1:Int),(([((0:Int),((1:Int),())),((0:Int),((2:Int),()))]:List (Int×Int×Unit)),(([]:List (Int×Int×Int×Unit)),()))),((1:Int),(([((0:Int),((9:Int),()))]:List (Int×Int×Unit)),(([]:List (Int×Int×Int×Unit)),()))),((2:Int),(([((0:Int),((1:Int),()))]:List (Int×Int×Unit)),(([]:List (Int×Int×Int×Unit)),())))]:List (Int×(List (Int×Int×Unit))×(List (Int×Int×Int×Unit))×Unit)),(3:Int),(2:Int),())=some (.inl ((6:Int),([(0,(2,(0,(true,()))))]:List (Int×Int×Int×Bool×Unit)),(8:Int),(4:Int),(2:Int),(2:Int),([]:List (List Int)),(0:Int),(8:Int),([((2:Int),((0:Int),((0:Int),((0:Int),((6:Int),()))))),((0:Int),((1:Int),((0:Int),((3:Int),((3:Int),())))))]:List (Int×Int×Int×Int×Int×Unit)),([((1:Int),(([((0:Int),((1:Int),())),((0:Int),((2:Int),()))]:List (Int×Int×Unit)),(([]:List (Int×Int×Int×Unit)),()))),((1:Int),(([((0:Int),((9:Int),()))]:List (Int×Int×Unit)),(([]:List (Int×Int×Int×Unit)),()))),((2:Int),(([((0:Int),((1:Int),()))]:List (Int×Int×Unit)),(([]:List (Int×Int×Int×Unit)),())))]:List (Int×(List (Int×Int×Unit))×(List (Int×Int×Int×Unit))×Unit)),(3:Int),(3:Int),())):=by rw[E3,show ilt (2:Int) 3=true from BC _ _];simp only[show idx ([((1:Int),(([((0:Int),((1:Int),())),((0:Int),((2:Int),()))]:List (Int×Int×Unit)),(([]:List (Int×Int×Int×Unit)),()))),((1:Int),(([((0:Int),((9:Int),()))]:List (Int×Int×Unit)),(([]:List (Int×Int×Int×Unit)),()))),((2:Int),(([((0:Int),((1:Int),()))]:List (Int×Int×Unit)),(([]:List (Int×Int×Int×Unit)),())))]:List (Int×(List (Int×Int×Unit))×(List (Int×Int×Int×Unit))×Unit)) (2:Int)=some ((2:Int),(([((0:Int),((1:Int),()))]:List (Int×Int×Unit)),(([]:List (Int×Int×Int×Unit)),())))from idx_eq _ _,ALD,show ieq (0:Int) 0=true from Cd _ _,show fits (A4 ([((2:Int),((0:Int),((0:Int),((0:Int),((6:Int),())))))]:List (Int×Int×Int×Int×Int×Unit))+A4 ([((0:Int),((1:Int),((0:Int),((3:Int),((3:Int),())))))]:List (Int×Int×Int×Int×Int×Unit)))=true from kq _];rfl
theorem AK8:E3 ((6:Int),([(0,(2,(0,(true,()))))]:List (Int×Int×Int×Bool×Unit)),(8:Int),(4:Int),(2:Int),(2:Int),([]:List (List Int)),(0:Int),(8:Int),([((2:Int),((0:Int),((0:Int),((0:Int),((6:Int),()))))),((0:Int),((1:Int),((0:Int),((3:Int),((3:Int),())))))]:List (Int×Int×Int×Int×Int×Unit)),([((1:Int),(([((0:Int),((1:Int),())),((0:Int),((2:Int),()))]:List (Int×Int×Unit)),(([]:List (Int×Int×Int×Unit)),()))),((1:Int),(([((0:Int),((9:Int),()))]:List (Int×Int×Unit)),(([]:List (Int×Int×Int×Unit)),()))),((2:Int),(([((0:Int),((1:Int),()))]:List (Int×Int×Unit)),(([]:List (Int×Int×Int×Unit)),())))]:List (Int×(List (Int×Int×Unit))×(List (Int×Int×Int×Unit))×Unit)),(3:Int),(3:Int),())=some (.inr (.inl (6,[(0,(2,(0,(true,()))))],0,8,[((2:Int),((0:Int),((0:Int),((0:Int),((6:Int),()))))),((0:Int),((1:Int),((0:Int),((3:Int),((3:Int),())))))],()))):=by rw[E3,show ilt (3:Int) 3=false from BC _ _]
theorem j8{σ ρ:Type}{step:σ->Option (σ⊕ρ)}{v a:σ}(h:step v=some (.inl a))(n:Nat):BD step (n+1) v=BD step n a:=by rw[BD,h]
theorem AIs{σ ρ:Type}{step:σ->Option (σ⊕ρ)}{v:σ}{r:ρ}(h:step v=some (.inr r))(n:Nat):BD step (n+1) v=some r:=by rw[BD,h]
theorem ALJ:A9 E3 many ((6:Int),([]:List (Int×Int×Int×Bool×Unit)),(8:Int),(4:Int),(2:Int),(2:Int),([]:List (List Int)),(0:Int),(8:Int),([]:List (Int×Int×Int×Int×Int×Unit)),([((1:Int),(([((0:Int),((1:Int),())),((0:Int),((2:Int),()))]:List (Int×Int×Unit)),(([]:List (Int×Int×Int×Unit)),()))),((1:Int),(([((0:Int),((9:Int),()))]:List (Int×Int×Unit)),(([]:List (Int×Int×Int×Unit)),()))),((2:Int),(([((0:Int),((1:Int),()))]:List (Int×Int×Unit)),(([]:List (Int×Int×Int×Unit)),())))]:List (Int×(List (Int×Int×Unit))×(List (Int×Int×Int×Unit))×Unit)),(3:Int),(0:Int),())=some (.inl (6,[(0,(2,(0,(true,()))))],0,8,[((2:Int),((0:Int),((0:Int),((0:Int),((6:Int),()))))),((0:Int),((1:Int),((0:Int),((3:Int),((3:Int),())))))],())):=by rw[BR,show many=18446744073709551612+1+1+1+1 from rfl,j8 ALB,j8 ALA,j8 AK9,AIs AK8]
theorem AKv{b:Int×(List (Int×Int×Int×Bool×Unit))×Unit}{c:List Int}{a:Int×Int×(Int×Int×(List (List Int))×Unit)×Unit}{l:List (Int×(List (Int×Int×Unit))×(List (Int×Int×Int×Unit))×Unit)}{p e:Int}{r:Int×(List (Int×Int×Int×Bool×Unit))×Int×Int×(List (Int×Int×Int×Int×Int×Unit))×Unit}
  (d:Cu ((b.1,(b.2.1,())),())=some (true,())) (f:Ib (c,())=some (l,p,e,()))
  (g:A9 E3 many (b.1,b.2.1,a.1,a.2.1,a.2.2.1.1,a.2.2.1.2.1,a.2.2.1.2.2.1,(0:Int),e,([]:List (Int×Int×Int×Int×Int×Unit)),l,(A4 l),(0:Int),())=some (.inl r)):rm (b,c,a,())=some ((r.1,(r.2.1,())),r.2.2.2.2.1,r.2.2.2.1,()):=by rw[rl,mO];simp only[d,ASE,f,g]
theorem ALK:rm (((6:Int),(([]:List (Int×Int×Int×Bool×Unit)),())),([(1:Int),(0:Int),(2:Int),(0:Int),(0:Int),(0:Int),(1:Int),(0:Int),(0:Int),(0:Int),(2:Int),(1:Int),(0:Int),(1:Int),(0:Int),(0:Int),(0:Int),(9:Int),(2:Int),(0:Int),(1:Int),(0:Int),(0:Int),(0:Int),(1:Int),(8:Int)]:List (Int)),((8:Int),((4:Int),(((2:Int),((2:Int),(([]:List (List Int)),()))),()))),())=some (((6:Int),(([(0,(2,(0,(true,()))))]:List (Int×Int×Int×Bool×Unit)),())),[(2,(0,(0,(0,(6,()))))),(0,(1,(0,(3,(3,())))))],8,()):=AKv (r:=(6,[(0,(2,(0,(true,()))))],0,8,[((2:Int),((0:Int),((0:Int),((0:Int),((6:Int),()))))),((0:Int),((1:Int),((0:Int),((3:Int),((3:Int),())))))],())) ALI AK6 ALJ
theorem ALF:DN (((6:Int),(([(0,(1,(0,(true,())))),(0,(2,(0,(true,())))),(1,(2,(0,(false,())))),(2,(3,(0,(true,())))),(3,(4,(0,(true,())))),(3,(5,(0,(true,())))),(4,(5,(0,(false,()))))]:List (Int×Int×Int×Bool×Unit)),())),((9:Int),(([]:List (Int×Int×Unit)),(([]:List (Int×Int×Int×Unit)),()))),((8:Int),((4:Int),(((2:Int),((2:Int),(([]:List (List Int)),()))),()))),())=some (((6:Int),(([(0,(1,(0,(true,())))),(0,(2,(0,(true,())))),(1,(2,(0,(false,())))),(2,(3,(0,(true,())))),(3,(4,(0,(true,())))),(3,(5,(0,(true,())))),(4,(5,(0,(false,()))))]:List (Int×Int×Int×Bool×Unit)),())),((0,(0,(0,(0,(0,())))))),1,()):=by rw[show DN (((6:Int),(([(0,(1,(0,(true,())))),(0,(2,(0,(true,())))),(1,(2,(0,(false,())))),(2,(3,(0,(true,())))),(3,(4,(0,(true,())))),(3,(5,(0,(true,())))),(4,(5,(0,(false,()))))]:List (Int×Int×Int×Bool×Unit)),())),((9:Int),(([]:List (Int×Int×Unit)),(([]:List (Int×Int×Int×Unit)),()))),((8:Int),((4:Int),(((2:Int),((2:Int),(([]:List (List Int)),()))),()))),()) = @DN idI (((6:Int),(([(0,(1,(0,(true,())))),(0,(2,(0,(true,())))),(1,(2,(0,(false,())))),(2,(3,(0,(true,())))),(3,(4,(0,(true,())))),(3,(5,(0,(true,())))),(4,(5,(0,(false,()))))]:List (Int×Int×Int×Bool×Unit)),())),((9:Int),(([]:List (Int×Int×Unit)),(([]:List (Int×Int×Int×Unit)),()))),((8:Int),((4:Int),(((2:Int),((2:Int),(([]:List (List Int)),()))),()))),())from ASt (fun i=>@DN i (((6:Int),(([(0,(1,(0,(true,())))),(0,(2,(0,(true,())))),(1,(2,(0,(false,())))),(2,(3,(0,(true,())))),(3,(4,(0,(true,())))),(3,(5,(0,(true,())))),(4,(5,(0,(false,()))))]:List (Int×Int×Int×Bool×Unit)),())),((9:Int),(([]:List (Int×Int×Unit)),(([]:List (Int×Int×Int×Unit)),()))),((8:Int),((4:Int),(((2:Int),((2:Int),(([]:List (List Int)),()))),()))),())) Dn];kernel_rfl
theorem AK7:Gr (((6:Int),(([(0,(1,(0,(true,())))),(0,(2,(0,(true,())))),(1,(2,(0,(false,())))),(2,(3,(0,(true,())))),(3,(4,(0,(true,())))),(3,(5,(0,(true,())))),(4,(5,(0,(false,()))))]:List (Int×Int×Int×Bool×Unit)),())),())=some (21,()):=by rw[show Gr (((6:Int),(([(0,(1,(0,(true,())))),(0,(2,(0,(true,())))),(1,(2,(0,(false,())))),(2,(3,(0,(true,())))),(3,(4,(0,(true,())))),(3,(5,(0,(true,())))),(4,(5,(0,(false,()))))]:List (Int×Int×Int×Bool×Unit)),())),()) = @Gr idI (((6:Int),(([(0,(1,(0,(true,())))),(0,(2,(0,(true,())))),(1,(2,(0,(false,())))),(2,(3,(0,(true,())))),(3,(4,(0,(true,())))),(3,(5,(0,(true,())))),(4,(5,(0,(false,()))))]:List (Int×Int×Int×Bool×Unit)),())),())from ASt (fun i=>@Gr i (((6:Int),(([(0,(1,(0,(true,())))),(0,(2,(0,(true,())))),(1,(2,(0,(false,())))),(2,(3,(0,(true,())))),(3,(4,(0,(true,())))),(3,(5,(0,(true,())))),(4,(5,(0,(false,()))))]:List (Int×Int×Int×Bool×Unit)),())),())) Dn];kernel_rfl
theorem AFK:RU ([((7:Int),((0:Int),((0:Int),((0:Int),((21:Int),()))))),((0:Int),((2:Int),((2:Int),((6:Int),((13:Int),())))))],())=some (((7,(2,(2,(6,(13,())))))),0,()):=by rw[show RU ([((7:Int),((0:Int),((0:Int),((0:Int),((21:Int),()))))),((0:Int),((2:Int),((2:Int),((6:Int),((13:Int),())))))],()) = @RU idI ([((7:Int),((0:Int),((0:Int),((0:Int),((21:Int),()))))),((0:Int),((2:Int),((2:Int),((6:Int),((13:Int),())))))],())from ASt (fun i=>@RU i ([((7:Int),((0:Int),((0:Int),((0:Int),((21:Int),()))))),((0:Int),((2:Int),((2:Int),((6:Int),((13:Int),())))))],())) Dn];kernel_rfl
theorem xi:QS ([((2:Int),((0:Int),((0:Int),((0:Int),((6:Int),()))))),((0:Int),((1:Int),((0:Int),((3:Int),((3:Int),())))))],[((2:Int),((0:Int),((0:Int),((0:Int),((6:Int),()))))),((0:Int),((1:Int),((0:Int),((3:Int),((3:Int),())))))],())=some (true,()):=by rw[show QS ([((2:Int),((0:Int),((0:Int),((0:Int),((6:Int),()))))),((0:Int),((1:Int),((0:Int),((3:Int),((3:Int),())))))],[((2:Int),((0:Int),((0:Int),((0:Int),((6:Int),()))))),((0:Int),((1:Int),((0:Int),((3:Int),((3:Int),())))))],()) = @QS idI ([((2:Int),((0:Int),((0:Int),((0:Int),((6:Int),()))))),((0:Int),((1:Int),((0:Int),((3:Int),((3:Int),())))))],[((2:Int),((0:Int),((0:Int),((0:Int),((6:Int),()))))),((0:Int),((1:Int),((0:Int),((3:Int),((3:Int),())))))],())from ASt (fun i=>@QS i ([((2:Int),((0:Int),((0:Int),((0:Int),((6:Int),()))))),((0:Int),((1:Int),((0:Int),((3:Int),((3:Int),())))))],[((2:Int),((0:Int),((0:Int),((0:Int),((6:Int),()))))),((0:Int),((1:Int),((0:Int),((3:Int),((3:Int),())))))],())) Dn];kernel_rfl
theorem mV:YP ()=some (true,()):=by rw[cV,WH];simp only[AFJ,ALH,ALG,ALK,ALF,AK7,AFK,xi,Cd,A4];rfl
theorem cz{n:Int}{ts:List Tie}(c:ts.length<=400):(∃ N:Nat,n=(N:Int)/\RG2 N ts/\Snd N (Bx N:Int) ts/\MF ((n,(ts,())),())=some (true,()))\/MF ((n,(ts,())),())=some (false,()):=by
 rcases UC n ts (by omega)with⟨b,_⟩|⟨N,rfl,h⟩
 right;rw[QM,O9];simp only[b,ASf];by_cases a:XJ ts/\mY ts/\TX N ts;exact .inl ⟨N,rfl,h,h.snd a,by rw[Nh h,(Ee _).2 a]⟩;right;have:LI (XJ ts/\mY ts/\TX N ts)=false:=by rw[<- Bool.not_eq_true,Ee];exact a
 rw[Nh h,this]
theorem qK(n:Int)(ts:List Tie)(w:NM):Su ((n,(ts,())),w,())=some (true,())\/(Su ((n,(ts,())),w,())=some (false,())/\ts.length<=30/\n<=12):=by rw[av,VN];simp only[A6,BC];by_cases a:(30:Int)<ts.length;left;rw[AR9 a];rw[AR8 a];by_cases b:(12:Int)<n;left;rw[AR9 b];rw[AR8 b];by_cases c:(60:Int)<w.2.2.1.2.2.1.length;left;simp only[AR9 c];right;simp only[AR8 c];exact⟨trivial,by omega,by omega⟩
theorem dm(g:Int×List Tie×Unit)(x:Ra)(w:NM){P Q R:Prop}(_:P)(_:Q)(_:R):J4 (g,x,w,())=some (true,()):=by
 obtain⟨n,ts,⟨⟩⟩:=g;rw[XF,RT];simp only[mV,ASE];have b:=qK n ts w;rcases b with b|⟨b,hl,hn⟩
 obtain⟨s,t,⟨u,v,y,⟨⟩⟩,⟨⟩⟩:=w;simp only[b];have S:Ek w.2.2.1->FO 60 w.2.2.1:=fun T=>(AQl T).mono (by omega);rcases(cz (n:=n) (ts:=ts) (by omega)).symm with o|⟨N,rfl,d,U,o⟩
 obtain⟨s,t,⟨u,v,y,⟨⟩⟩,⟨⟩⟩:=w;simp only[b,o,ASf];split<;>rfl;obtain⟨e,mq,r,p,hT,_,i,c,A,m⟩:=AIP d U x w S;have B:∀ z:Int,ieq z z=true:=Dh;have j:=nr (N:Int) ts (by omega);have f:=O5 N d.hN;rw[EG d.hN]at f;have C:=J6 d;have D:=J6 c;have E:=(Nh c).trans (by rw[(Ee _).2 (A.parts c)]);have r1:=G3 d.hN ts d.vg;have r2:=G3 d.hN e c.vg;have l1:=d.ht;have l2:=c.ht;have V:=MA d.hN;by_cases q:r.1=0;obtain⟨h,l,H,I,rfl,J,W,K,a4,a5,a6,a7,X,L⟩:=m.2 q;rw[q]at i;have Y:(Bx N:Int)*h<=64*400:=Int.mul_le_mul (by omega) W J (by omega);have M:0<=(Bx N:Int)*h:=Int.mul_nonneg (by omega) J;have Z:(Bx N:Int)*l<=64*1000:=Int.mul_le_mul (by omega) (by omega) K (by omega);have O:0<=(Bx N:Int)*l:=Int.mul_nonneg (by omega) K;have m1:w64 (CE N ts+w64 ((Bx N:Int)*h))=CE N ts+(Bx N:Int)*h:=by rw[BG (n:=(Bx N:Int)*h) (by omega),BG (by omega)]
 have m2:w64 (w64 (CE N e+H)+I)=CE N ts+(Bx N:Int)*h:=by rw[BG (n:=CE N e+H) (by omega),BG (by omega)];omega
 have m3:w64 (w64 ((ts.length:Int)+h)-l)=(e.length:Int):=by rw[BG (n:=(ts.length:Int)+h) (by omega),BG (by omega)];omega
 have m4:w64 ((Bx N:Int)*l)=(Bx N:Int)*l:=by rw[BG (by omega)]
 have m5:ile I ((Bx N:Int)*l)=true:=by rw[BM,AR9 X]
 obtain⟨s,t,⟨u,v,y,⟨⟩⟩,⟨⟩⟩:=w;obtain⟨k,es,F,⟨⟩⟩:=x;simp only[b,o,ASE,i,B,f,C,D,m1,m2,A6,m3,E,m4,m5];simp only at L;split;rfl;rw[BB];by_cases G:k=2;rw[AR9 G];rw[AR8 G];obtain⟨rfl,rfl⟩:=L G;simp only[B];obtain⟨rfl,rfl⟩:=m.1 q;obtain⟨s,t,⟨u,v,y,⟨⟩⟩,⟨⟩⟩:=w;obtain⟨k,es,F,⟨⟩⟩:=x;simp only[b,o,ASE,i,BB (a:=r.1),AR8 q,ASf,j,B];split<;>rfl
end Go.Pev.Pl
end
section
namespace Go.Pev
open Go.Proofs
noncomputable section
def AKc:=Chn.g ⟨sH,sG⟩ ⟨24,0,0,2,0,none,AKb,[(.ret,BW)],A8,[(1,[[0],[0],[],[2],[2]])],[]⟩ cJ Tryz.func24 gd
def AKu:=Chn.g AKc ⟨10,0,0,1,0,none,F9,[(.ret,BW)],A8,[],[(0,AFG,rV)]⟩ Gr Tryz.func10 gf
def AOr:=Chn.g AKu ⟨22,0,1,2,0,none,AOq,[(.ret,AOp)],Bv,[(8,[[],[0],[0],[0],[0],[30],[30],[],[0],[0],[0],[1]]),(6,[[],[0],[0],[0],[2],[2],[2],[2],[],[],[],[],[],[],[],[29],[31]]),(5,[[],[0],[0],[0],[0],[],[0],[0],[0],[],[0],[0],[0],[0],[],[],[],[],[],[0],[0],[0],[1]]),(3,[[],[0],[0],[0],[2],[2],[2],[2]])],[(0,AKq,AKp)]⟩ zu Tryz.func22 rj
def AOt:=Chn.g AOr ⟨7,0,0,3,0,none,Oo,[(.ret,AOs)],Ea,[(12,[[18],[18],[],[22],[22],[22],[7],[9]]),(3,[[0],[],[20],[20],[7],[9]])],[]⟩ DN Tryz.func7 Om
def AOw:=Chn.g AOt ⟨12,0,0,3,0,none,AOv,[(.ret,AOu)],Ea,[(10,[[18],[],[20],[],[7,22],[1]])],[(0,AKx,AKw)]⟩ rm Tryz.func12 rl
def AQy:=Chn.g AOw ⟨27,0,0,1,0,none,AQx,[(.ret,BN)],A8,[],[]⟩ AQz Tryz.func27 AOj
def vw:=Chn.g AQy ⟨44,0,0,2,0,some (1,27),ab,[(.ret,BW)],A8,[],[(0,qD,HL)]⟩ af Tryz.func44 qE
def q9:=Chn.g vw ⟨26,0,0,2,0,some (1,27),ab,[(.ret,BN)],A8,[],[]⟩ Vt Tryz.func26 lR
def AKt:=Chn.g q9 ⟨13,0,0,1,0,none,AKs,[(.ret,AKr)],BZ,[],[(0,AFE,AFD)]⟩ RU Tryz.func13 AFF
def AFL:=Chn.g AKt ⟨4,0,0,0,0,none,xp,[(.ret,BN)],A8,[(6,[[20],[],[],[],[],[],[],[],[],[],[95],[97]]),(3,[[20],[],[],[],[],[],[],[24],[],[],[],[],[],[],[43],[45]]),(2,[[],[2],[],[0],[],[],[],[],[],[],[21],[23]])],[]⟩ YP Tryz.func4 cV
def xc:=Chn.g AFL ⟨3,0,0,3,0,none,Oo,[(.ret,BN)],A8,[(9,[[0],[],[],[40],[40],[],[],[38],[],[40],[40],[],[40],[40],[],[],[],[40],[40],[38],[],[],[],[],[38],[38],[],[0],[0],[],[40],[40],[],[40],[40],[],[],[],[],[38],[],[],[],[40],[40],[],[40],[40],[],[],[],[],[2],[2],[],[],[40],[40],[],[],[40],[40]])],[]⟩ J4 Tryz.func3 XF
end
end Go.Pev
end
section

end
