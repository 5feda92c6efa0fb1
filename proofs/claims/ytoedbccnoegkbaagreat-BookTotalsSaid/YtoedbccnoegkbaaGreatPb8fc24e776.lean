/- A part of the proofs of this seat: PevOps6 PevOps7 PevOps8 PevOps9 PevOps10 PevKeep PevPrs PevRows2 PevOps12 PevMore PevKeys PevKeys2 PevIface PevOps11 PevCode PevLocal PevDraw PevDraw2 PevDec PevDec2. -/
import Derived.Test.YtoedbccnoegkbaaGreatP9e59f1b5f3
import Derived.IntWalk
import Derived.Laws.StructEq
import Derived.Laws.BytesArg
set_option linter.unusedVariables false
set_option linter.unusedSimpArgs false
set_option linter.unusedSectionVars false
set_option maxRecDepth 100000
section
namespace Go.Pev
open Go.RowKit
section
variable {P:Program} {E:Env}
theorem C8{w:World}{F:Nat→Prop}{m:Mp}{H:List Ob}{fz:List Bool}(hi:HI w F m H fz){slot:Nat}(hf:Ai H fz slot=true)(T:TypeId){t:Ty}(ht:0<t.size)(a:Option Addr):
  ∃ m',Aa w F m H fz w F m' (H.set slot (.arr T t [])) fz∧Rep w F m' (H.set slot (.arr T t [])) (.own slot) (.slice a 0 0):=by have hg:=Aa.new (w':=w) hi hf (ob:=.arr T t []) trivial none rfl rfl rfl (Abd _) (fun _ _=>rfl) (fun b c h=>by cases h) (fun _=>⟨ht,rfl⟩);refine⟨_,hg,?_⟩;unfold Rep;have hlt:=AY (A3 hf).1;rw[Ak hlt,Af];exact⟨a,rfl⟩
theorem Nv{w:World}{T e:TypeId}{i:TypeInfo}(hu:P.underlying T=some (.slice e))(hi:P.info? e=some i)(a:Option Addr)(len cap:Nat)(k k':IntKind):
  (Instr.sliceAt T (.slice a len cap) none (some (.int k 0)) (some (.int k' 0))).run P w = .ok (.slice a 0 0) w:=by simp[Instr.sliceAt,run_underlying hu,Instr.slice,Instr.sliceBounds,Instr.sliceBound,asIntOf,run_sizeOf hi]
theorem Wp{w:World}{F:Nat→Prop}{m:Mp}{H:List Ob}{v:AV}(h:EY H v=true){u:Value}(hr:Rep w F m H v u):∃ a len cap,u = .slice a len cap:=by
 cases v with
  |data t d=>cases t<;>simp only[EY,Ab3]at h;rename_i t;have hrx:Dat w F (.slice t) d [u]:=hr;obtain⟨a,cap,e1,_⟩:=hrx;simp only[AcY,AdQ]at e1;exact⟨_,_,_,e1⟩
  |nils e=>unfold Rep at hr;exact⟨_,_,_,hr⟩
  |own id=>
   obtain⟨T,t,xs,ho⟩:=DL h;unfold Rep at hr;rw[ho]at hr;cases hm:m id with
    |none=>rw[hm]at hr;obtain⟨a,e1⟩:=hr;exact⟨_,_,_,e1⟩
    |some p=>rw[hm]at hr;exact⟨_,_,_,hr⟩
  |win id off n=>
   obtain⟨T,t,xs,ho⟩:=DL h;unfold Rep at hr;rw[ho]at hr;obtain⟨_,hr⟩:=hr;cases hm:m id with
    |none=>rw[hm]at hr;obtain⟨a,e1⟩:=hr;exact⟨_,_,_,e1⟩
    |some p=>rw[hm]at hr;obtain⟨a,e1,_⟩:=hr;exact⟨_,_,_,e1⟩
  |_=>simp[EY]at h
theorem IY{w:World}{T e:TypeId}{i:TypeInfo}(hu:P.underlying T=some (.slice e))(hi:P.info? e=some i)(a:Option Addr)(len cap:Nat){lo:Option Value}{l h:Int}{kh km:IntKind}
  (hlo:(lo=none∧l=0)∨∃ k,lo=some (.int k l)) (h0:0≤l) (h1:l≤h) (h2:h≤cap) :
  (Instr.sliceAt T (.slice a len cap) lo (some (.int kh h)) (some (.int km h))).run P w = .ok (.slice (if h.toNat=l.toNat then a else a.map (·.add (l.toNat*i.size))) (h.toNat-l.toNat) (h.toNat-l.toNat)) w:=by
 have hb:(Instr.sliceBounds true len cap lo (some (.int kh h)) (some (.int km h))).run P w = .ok (l.toNat,h.toNat,h.toNat) w:=by
  obtain⟨l,rfl⟩:=AcB h0;obtain⟨h,rfl⟩:=AcB (show 0≤h by omega);have h1:l≤h:=by omega
  have h2:h≤cap:=by omega
  rcases hlo with⟨rfl,e2⟩|⟨k',rfl⟩
  have e3:l=0:=by omega
  subst e3;simp[Instr.sliceBounds,Instr.sliceBound,asIntOf,h2];simp[Instr.sliceBounds,Instr.sliceBound,asIntOf,h1,h2]
 simp only[Instr.sliceAt,Sem.run_bind,run_underlying hu,Result.andThen_ok,Instr.slice,hb,run_sizeOf hi,Sem.run_pure]
theorem N9(T:TypeId)(x:Operand)(lo up:Option Operand)(mx:Operand):Claim P E (.slice T x lo up (some mx)):=by
 intro R ty ρ H fz slot k r h;simp only[evalOp,CJ]at h;split at h;rename_i e hu;split at h;rename_i u;split at h;rename_i l n n' hl hn hm;split at h;rename_i t xs hx;split at h;rename_i hsz;split at h;rename_i hnn;split at h;cases h;rename_i ys hs;refine⟨_,_,h,fun R' k'=>by simp only[evalOp,CJ,hu,hl,hn,hm,hx,hsz,hnn,hs],AL fun w F m ρc o hop hty hi hr => ?_⟩;obtain⟨a1,a2,a3,rfl⟩:=Fp hs;rw[Ea,AcW]at hnn;subst hnn;simp only[Abb]at hsz;obtain⟨i,hi0,hsz'⟩:=Av hsz;have hrx:=hr x;rw[hx]at hrx;have hrx:Dat w F (.slice t) xs [ρc x]:=hrx;obtain⟨a,cap,e1,e2,e3⟩:=hrx;simp only[AcY,AdQ]at e1;obtain⟨k1,hup⟩:=H0 hn (hr (.tmp u));obtain⟨k2,hmx⟩:=H0 hm (hr mx);have hrun:=IY (P:=P) (w:=w) (kh:=k1) (km:=k2) hu hi0 a (List.length (α:=t.den) xs) cap (KR hr hl 0) a1 a2 (by omega);refine⟨.slice (if n.toNat=(l.getD 0).toNat then a else a.map (·.add ((l.getD 0).toNat*i.size))) (n.toNat-(l.getD 0).toNat) (n.toNat-(l.getD 0).toNat),by simp[execOp,hop,e1,hup,hmx,hrun],?_⟩
 have hlen:((xs.take n.toNat).drop (l.getD 0).toNat).length=n.toNat-(l.getD 0).toNat:=by rw[Ab2,Abn];omega
 unfold Rep;refine⟨⟨_,_,by rw[hlen],by rw[hlen];omega,fun hne => ?_⟩,_,by rw[hlen]⟩;have hpos:(l.getD 0).toNat<n.toNat:=by rcases Abv (l.getD 0).toNat n.toNat with hh'|hh';exact hh';exact absurd (Abh (by rw[hlen];omega)) hne
 have hxne:xs≠[]:=by rintro rfl;simp at hne
 obtain⟨ad,row,q1,q2,q3,q4⟩:=e3 hxne;have hk:=fun(x:t.den) cs (h:Dat w F t x cs)=>Dat.length t h;refine⟨ad.add ((l.getD 0).toNat*t.size),_,?_,by rw[Fv];exact q2,Fq hk (l.getD 0).toNat (DI hk n.toNat q3),fun j u hu' => ?_⟩;rw[Acg (by omega),q1,hsz'];rfl;rw[add_add];rw[Ab4,Abx]at hu';split at hu';exact q4 _ u hu';cases hu';cases h;cases h;cases h;cases h;rename_i hnt;split at h;rename_i e' t hl hh hm hsl;obtain⟨hu',hty',hpos⟩:=Bb hsl;split at h;rename_i n hx hs;split at h;rename_i hf;refine⟨_,_,h,fun R' k' => ?_,Aq fun w F m ρc o hop hty hi hr => ?_⟩;rcases up with _|q;simp only[evalOp,CJ,hu,hl,hh,hm,hsl,hx,hs,hf];cases q with
  |tmp u=>exact absurd rfl (hnt u)
  |_=>simp only[evalOp,CJ,hu,hl,hh,hm,hsl,hx,hs,hf]
 obtain⟨i,hi0,_⟩:=Av hs;have hslice:=Wp hx (hr x);obtain⟨a,len,cap,e1⟩:=hslice;have hlo:lo.map ρc=none:=by
  rcases Ik hr hl with⟨h1,_⟩|⟨_,_,_,h2⟩
  exact h1;cases h2
 have hup:∃ k,up.map ρc=some (.int k 0):=by
  rcases Ik hr hh with⟨_,h2⟩|⟨k,n,h1,h2⟩
  cases h2;cases h2;exact⟨k,h1⟩
 obtain⟨k1,hup⟩:=hup;obtain⟨k2,hmx⟩:=H0 hm (hr mx);have hrun:=Nv (P:=P) (w:=w) hu hi0 a len cap k1 k2;obtain⟨m',hg,hrep⟩:=C8 hi hf e hpos a;exact⟨_,w,F,m',by simp[execOp,hop,e1,hlo,hup,hmx,hrun],hg,hrep⟩;cases h;cases h;cases h;cases h;cases h
theorem Ll{T:TypeId}{f off size:Nat}{ag:Bool}(h:fieldAt P T f=some (off,size,ag)):∃ fs fd i,P.underlying T=some (.struct fs)∧fs[f]? = some fd∧P.info? fd.type=some i∧fd.offset=off∧i.size=size∧Dd P fd.type=some ag:=by unfold fieldAt at h;split at h;rename_i fs hu;split at h;rename_i fd hf;split at h;rename_i i ag' hi ha;simp only[AbZ,Abf]at h;obtain⟨rfl,rfl,rfl⟩:=h;exact⟨fs,fd,i,hu,hf,hi,rfl,rfl,ha⟩;cases h;cases h;cases h
theorem Gv{w:World}{T:TypeId}{f off size:Nat}{ag:Bool}(h:fieldAt P T f=some (off,size,ag))(hs:size≠0)(a:Addr):(Instr.fieldAt T (.pointer (some a)) f).run P w = .ok (.pointer (some (a.add off))) w:=by obtain⟨fs,fd,i,hu,hf,hi,rfl,rfl,ha⟩:=Ll h;simp[Instr.fieldAt,run_underlying hu,hf,Instr.sureAddr,fieldPlace,run_sizeOf hi,hs]
theorem OD(T:TypeId)(x:Operand)(f:Nat):Claim P E (.fieldAddr T x f):=by
 intro R ty ρ H fz slot k r h;simp only[evalOp,CZ]at h;split at h;cases h;rename_i off size ag hf;split at h;cases h;rename_i hs;simp only[Acn]at hs;split at h;rename_i id o' hx;split at h;rename_i hl;obtain⟨cs,ho⟩:=Hv hl;refine⟨_,_,h,fun R' k'=>by simp only[evalOp,CZ,hf,hs,Acb,hx,hl],AL fun w F m ρc o hop hty hi hr => ?_⟩;obtain⟨b,c,vs,T,e1,e2,_⟩:=L1 hi ho (hx▸hr x);refine⟨.pointer (some ⟨b,o'+off,none⟩),by simp[execOp,hop,e2,Gv hf hs,Bp],?_⟩;unfold Rep;rw[ho];exact⟨b,c,e1,rfl⟩;cases h;rename_i id i s hx;split at h;rename_i hl;obtain⟨T',t,xs,ho⟩:=DL hl;refine⟨_,_,h,fun R' k'=>by simp only[evalOp,CZ,hf,hs,Acb,hx,hl],AL fun w F m ρc o hop hty hi hr => ?_⟩;obtain⟨b,c,vs,row,e1,e2,e3,_⟩:=IF hi ho (hx▸hr x);refine⟨.pointer (some ⟨b,i*t.size+s+off,none⟩),by simp[execOp,hop,e2,Gv hf hs,Bp],?_⟩;unfold Rep;rw[ho];exact⟨e3,b,c,e1,by rw[Ada]⟩;cases h;rename_i cs hx;refine⟨_,_,h,fun R' k'=>by simp only[evalOp,CZ,hf,hs,Acb,hx],AL fun w F m ρc o hop hty hi hr => ?_⟩;have hrx:=hr x;rw[hx]at hrx;unfold Rep at hrx;obtain⟨ad,us,e1,e2,e3,e4,e5⟩:=hrx;refine⟨.pointer (some (ad.add off)),by simp[execOp,hop,e1,Gv hf hs],?_⟩;unfold Rep;exact⟨ad.add off,us.drop off,rfl,fun hne=>by rw[Fv];exact e2 (by rintro rfl;simp at hne),Dy e3 off,fun u hu=>e4 u (AcT hu),fun j u hu=>by rw[add_add];rw[Ab4]at hu;exact e5 _ u hu⟩
 cases h
theorem PQ{w:World}{F:Nat→Prop}{m:Mp}{H:List Ob}{T:TypeId}{i:TypeInfo}{ag:Bool}(hi:P.info? T=some i)(ha:Dd P T=some ag){cs:List AV}{v:AV}{us:Array Value}{off:Nat}
  (hl:loadCells ag i.size (cs.drop off)=some v) (hr:AP w F m H cs us.toList) (h1:∀ u∈us.toList,u.oneCell'=true):∃ u,(part T us off).run P w = .ok u w∧Rep w F m H v u:=by
 unfold loadCells at hl;cases ag with
  |true=>simp only at hl;split at hl;rename_i hle;simp only[AbZ]at hl;subst hl;refine⟨.agg (us.extract off (off+i.size)),by simp[part,CC ha,run_sizeOf hi],?_⟩;unfold Rep;refine⟨_,rfl,?_,?_⟩;rw[Array.toList_extract,AdV,show off+i.size-off=i.size from by omega];exact Jr (Dy hr off) _;intro u hu;rw[Array.toList_extract,AdV]at hu;exact h1 u (AcT (Ac6 hu));cases hl
  |false=>
   simp only at hl;have hg:cs[off]? = some v:=by rw[AdW]at hl;exact hl
   obtain⟨u,h2,h3⟩:=B4 hr hg;refine⟨u,?_,h3⟩;have:us[off]? = some u:=by simpa using h2
   simp[part,CC ha,this]
theorem ABn(T:TypeId)(x:Operand)(f:Nat):Claim P E (.field T x f):=by intro R ty ρ H fz slot k r h;simp only[evalOp,Ln]at h;split at h;cases h;rename_i off size ag hf;split at h;rename_i cs hc hag;split at h;rename_i v hl;refine⟨_,_,h,fun R' k'=>by simp only[evalOp,Ln,hf,hc,hag,hl],AL fun w F m ρc o hop hty hi hr => ?_⟩;obtain⟨fs,fd,i,hu,hfd,hi0,rfl,rfl,ha⟩:=Ll hf;obtain⟨vs,e1⟩:=HV hag (hr x);have hrc:=cells?_ok hc (hr x);have h1:=cells?_one hc (hr x);rw[e1]at hrc h1;obtain⟨u,q1,q2⟩:=PQ (P:=P) hi0 ha hl hrc h1;refine⟨u,?_,q2⟩;simp only[Value.cells]at q1;simp[execOp,hop,e1,Instr.field,run_underlying hu,hfd,Go.asAgg,q1];cases h;cases h
theorem R4(x:Operand)(i:Nat):Claim P E (.extract x i):=by
 intro R ty ρ H fz slot k r h;simp only[evalOp,HS]at h;split at h;rename_i vs hx;split at h;rename_i v hv;refine⟨_,_,h,fun R' k'=>by simp only[evalOp,HS,hx,hv],AL fun w F m ρc o hop hty hi hr => ?_⟩;have hrx:=hr x;rw[hx]at hrx;unfold Rep at hrx;obtain⟨us,e1,e2⟩:=hrx;obtain⟨u,h1,h2⟩:=B4 e2 hv;exact⟨u,by
  have:us[i]? = some u:=by simpa using h1
  simp[execOp,hop,e1,Instr.extract,this],h2⟩
 cases h;cases h
end
end Go.Pev
end
section
namespace Go.Pev
open Go.RowKit
section
variable {P:Program} {E:Env}
theorem NT{T:TypeId}{size:Nat}{ag:Bool}(h:elemAt P T=some (size,ag)):∃ n e i,P.underlying T=some (.array n e)∧P.info? e=some i∧i.size=size∧Dd P e=some ag:=by unfold elemAt at h;split at h;rename_i n e hu;split at h;rename_i i ag' hi ha;simp only[AbZ,Abf]at h;obtain⟨rfl,rfl⟩:=h;exact⟨n,e,i,hu,hi,rfl,ha⟩;cases h;cases h
theorem R0{x:Operand}{s:ByteArray}(h:QL x=some s):x = .const (.string s):=by unfold QL at h;split at h;simp only[AbZ]at h;subst h;rfl;cases h
theorem AGE{k:IntKind}:∀ {cs:List AV} {ns:List Int} {i:Nat} {d:Int},KV k cs=some ns→ns[i]? = some d→cs[i]? = some (.data (.int k) d):=by
 intro cs;induction cs with
  |nil=>intro ns i d h hi;simp only[KV,AbZ]at h;subst h;simp at hi
  |cons c cs ih=>
   intro ns i d h hi;cases c with
    |data t x=>
     cases t with
      |int j=>
       simp only[KV]at h;split at h;rename_i ns' hj hns;simp only[Abb]at hj;subst hj;simp only[AbZ]at h;subst h;cases i with
        |zero=>simp only[Abr,AbZ]at hi ⊢;rw[hi]
        |succ i=>simp only[Acz]at hi ⊢;exact ih hns hi
       cases h
      |_=>simp[KV]at h
    |_=>simp[KV]at h
theorem ABm(T:TypeId)(x y:Operand):Claim P E (.index T x y):=by
 intro R ty ρ H fz slot k r h;simp only[evalOp,H8]at h;split at h
 ·rename_i s hcs;split at h
  ·rename_i j i hu hy;split at h
   ·rename_i b hb;refine⟨_,_,h,fun R' k'=>by simp only[evalOp,H8,hcs,hu,hy,hb],fun w F m a o next Q hop hty hi hr hn => ?_⟩;have e2:=As (hy▸hr y);have hx:=R0 hcs;subst hx;rw[idx_eq]at hb;unfold AS6 at hb;split at hb;cases hb;rename_i hi0;have hi1:(0:Int)≤i:=Int.not_lt.1 hi0;have he:a.eval (.const (.string s)) = .string s:=rfl;have hrun:(execOp a.eval o).run P w = .ok (.value (.int .u8 b)) w:=by
     have hb':s[i.toNat]? = some (UInt8.ofNat b.toNat)∧((UInt8.ofNat b.toNat).toNat:Int)=b:=by
      unfold bytesOf at hb;rw[Ab6,Abc]at hb;obtain⟨c,h1,rfl⟩:=hb;have e:UInt8.ofNat (c.toNat:Int).toNat=c:=by simp
      rw[e];refine⟨?_,rfl⟩;rw[AcG]at h1;have hlt:i.toNat<s.data.size:=by rcases Abv i.toNat s.data.size with h'|h';exact h';rw[AdG h']at h1;cases h1
      rw[Abw hlt]at h1;simp only[AbZ]at h1;have hlt2:i.toNat<s.size:=hlt;rw[getElem?_pos s i.toNat hlt2];exact Ab8 some h1
     have h2:=hb'.2;generalize UInt8.ofNat b.toNat=c at hb' h2;subst h2;simp[execOp,hop,e2,he,Instr.index,asIntOf,run_underlying hu,hi1,hb'.1]
    unfold Oper.wp;rw[hrun];have:=hn (.int .u8 b) w F m (Aa.refl hi) (Aj _ _);exact this
   cases h
  cases h
 rename_i hcs;split at h;rename_i hE;split at h;rename_i n e j i he hu hy;split at h;rename_i cs kk hc hag hkk;split at h;rename_i ns hns;split at h;rename_i hd;split at h;cases h;rename_i d hid;refine⟨_,_,h,fun R' k'=>by simp only[evalOp,H8,hcs,hE,he,hu,hy,hc,hag,hkk,hns,hd,hid],AL fun w F m ρc o hop hty hi hr => ?_⟩;obtain⟨n',e',i',hu',hi0,hsz,ha⟩:=NT he;rw[hu]at hu';cases hu';simp only[Abb]at hd;obtain⟨a1,a2,a3⟩:=C6 hid;obtain⟨vs,e1⟩:=HV hag (hr x);have e2:=As (hy▸hr y);have hrc:=cells?_ok hc (hr x);have h1:=cells?_one hc (hr x);rw[e1]at hrc h1;have hl:loadCells false i'.size (cs.drop (i.toNat*i'.size))=some (.data (.int kk) d):=by rw[hsz,AdI];unfold loadCells;simp only;rw[AdW];exact AGE hns a3
 obtain⟨u,q1,q2⟩:=PQ (P:=P) hi0 ha hl hrc h1;refine⟨u,?_,q2⟩;simp only[Value.cells]at q1;have hd1:0≤i:=a1;have hd2:i<(n:Int):=by rw[← hd];exact a2
 simp[execOp,hop,e1,e2,Instr.index,asIntOf,run_underlying hu,hd1,hd2,run_sizeOf hi0,q1];cases h;cases h;cases h;cases h;rename_i hE;split at h;rename_i size ag n e j i he hu hy;split at h;rename_i hd;split at h;rename_i cs hc hag;split at h;rename_i v hl;refine⟨_,_,h,fun R' k'=>by simp only[evalOp,H8,hcs,hE,he,hu,hy,hd,hc,hag,hl],AL fun w F m ρc o hop hty hi hr => ?_⟩;obtain⟨n',e',i',hu',hi0,rfl,ha⟩:=NT he;rw[hu]at hu';cases hu';simp only[Abb]at hd;obtain⟨vs,e1⟩:=HV hag (hr x);have e2:=As (hy▸hr y);have hrc:=cells?_ok hc (hr x);have h1:=cells?_one hc (hr x);rw[e1]at hrc h1;obtain⟨u,q1,q2⟩:=PQ (P:=P) hi0 ha hl hrc h1;refine⟨u,?_,q2⟩;simp only[Value.cells]at q1;have hd1:0≤i:=hd.1;have hd2:i<(n:Int):=hd.2;simp[execOp,hop,e1,e2,Instr.index,asIntOf,run_underlying hu,hd1,hd2,run_sizeOf hi0,q1];cases h;cases h;cases h;cases h
theorem Cp{w:World}{T e:TypeId}{i:TypeInfo}(hu:P.underlying T=some (.slice e))(hi:P.info? e=some i)(ad:Addr)(len cap:Nat)(k:IntKind){n:Int}(h0:0≤n)(h1:n<len):
  (Instr.indexAt T (.slice (some ad) len cap) (.int k n)).run P w = .ok (.pointer (some (ad.add (n.toNat*i.size)))) w:=by simp[Instr.indexAt,asIntOf,run_underlying hu,h0,h1,run_sizeOf hi]
theorem BO{w w':World}{ρc:Operand→Value}{o:Oper}{T:TypeId}{x y:Operand}{v n u:Value}(hop:o.op = .indexAddr T x y)(e1:ρc x=v)(e2:ρc y=n)
  (hrun:(Instr.indexAt T v n).run P w = .ok u w'):(execOp ρc o).run P w = .ok (.value u) w':=by simp[execOp,hop,e1,e2,hrun]
theorem OC(T:TypeId)(x y:Operand):Claim P E (.indexAddr T x y):=by
 intro R ty ρ H fz slot k r h;simp only[evalOp,BF]at h;split at h;rename_i e j i hu hy;split at h;rename_i t xs hx;split at h;rename_i hsz;split at h;rename_i d hd;refine⟨_,_,h,fun R' k'=>by simp only[evalOp,BF,hu,hy,hx,hsz,hd],AL fun w F m ρc o hop hty hi hr => ?_⟩;simp only[Abb]at hsz;obtain⟨i',hi0,hsz'⟩:=Av hsz;obtain⟨a1,a2,a3⟩:=C6 hd;have hrx:=hr x;rw[hx]at hrx;have hrx:Dat w F (.slice t) xs [ρc x]:=hrx;obtain⟨a,cap,e1,e2,e3⟩:=hrx;simp only[AcY,AdQ]at e1;have hne:xs≠[]:=by rintro rfl;simp at a3
 obtain⟨ad,row,rfl,q2,q3,q4⟩:=e3 hne;have hk:=fun(x:t.den) cs (h:Dat w F t x cs)=>Dat.length t h;have hg:=PT hk q3 a3;refine⟨_,BO hop e1 (As (hy▸hr y)) (Cp hu hi0 ad _ cap j a1 a2),?_⟩;unfold Rep;refine⟨_,(row.drop (i.toNat*t.size)).take t.size,rfl,fun _=>by rw[Fv];exact q2,GK t hg,Dat.Fb t hg,fun k u hu' => ?_⟩;rw[add_add,hsz'];rw[Abx]at hu';split at hu';rw[Ab4]at hu';exact q4 _ u hu';cases hu';cases h;cases h;rename_i id hx;split at h;rename_i T' t xs ho;split at h;rename_i hsz;split at h;rename_i d hd;refine⟨_,_,h,fun R' k'=>by simp only[evalOp,BF,hu,hy,hx,ho,hsz,hd],AL fun w F m ρc o hop hty hi hr => ?_⟩;simp only[Abb]at hsz;obtain⟨i',hi0,hsz'⟩:=Av hsz;obtain⟨a1,a2,a3⟩:=C6 hd;have hrx:=hr x;rw[hx]at hrx;unfold Rep at hrx;rw[ho]at hrx;obtain⟨hpos,hob⟩:=hi.obj id _ ho;cases hm:m id with
  |none=>rw[hm]at hob;simp only at hob;subst hob;simp at a3
  |some p=>obtain⟨b,cap⟩:=p;rw[hm]at hrx;simp only[At]at hrx;refine⟨_,BO hop hrx (As (hy▸hr y)) (Cp hu hi0 ⟨b,0,none⟩ _ cap j a1 a2),?_⟩;unfold Rep;rw[ho];exact⟨by unfold AE;omega,b,cap,hm,by rw[Bp,hsz'];simp[AE]⟩
 cases h;cases h;rename_i T' tgt is ho;split at h;rename_i hsz;split at h;rename_i d hd;refine⟨_,_,h,fun R' k'=>by simp only[evalOp,BF,hu,hy,hx,ho,hsz,hd],AL fun w F m ρc o hop hty hi hr => ?_⟩;simp only[Abb]at hsz;obtain⟨i',hi0,hsz'⟩:=Av hsz;obtain⟨a1,a2,a3⟩:=C6 hd;have hrx:=hr x;rw[hx]at hrx;unfold Rep at hrx;rw[ho]at hrx;have hob:=hi.obj id _ ho;cases hm:m id with
  |none=>rw[hm]at hob;have hob:is=[]:=hob;subst hob;simp at a3
  |some p=>obtain⟨b,cap⟩:=p;rw[hm]at hrx;simp only[At]at hrx;refine⟨_,BO hop hrx (As (hy▸hr y)) (Cp hu hi0 ⟨b,0,none⟩ _ cap j a1 a2),?_⟩;unfold Rep;rw[ho];exact⟨by unfold AE;omega,b,cap,hm,by rw[Bp,hsz'];simp[AE]⟩
 cases h;cases h;rename_i T' e' t xs ver out ho;split at h;rename_i hsz;split at h;rename_i d hd;refine⟨_,_,h,fun R' k'=>by simp only[evalOp,BF,hu,hy,hx,ho,hsz,hd],AL fun w F m ρc o hop hty hi hr => ?_⟩;simp only[Abb]at hsz;obtain⟨i',hi0,hsz'⟩:=Av hsz;obtain⟨a1,a2,a3⟩:=C6 hd;have hrx:=hr x;rw[hx]at hrx;unfold Rep at hrx;rw[ho]at hrx;obtain⟨hpos,hob⟩:=hi.obj id _ ho;cases hm:m id with
  |none=>rw[hm]at hob;obtain⟨_,hob⟩:=hob;subst hob;simp at a3
  |some p=>obtain⟨b,cap⟩:=p;rw[hm]at hrx;simp only[At]at hrx;refine⟨_,BO hop hrx (As (hy▸hr y)) (Cp hu hi0 ⟨b,0,none⟩ _ cap j a1 a2),?_⟩;unfold Rep;rw[ho];exact⟨by unfold AE;omega,b,cap,hm,by rw[Bp,hsz'];simp[AE]⟩
 cases h;cases h;cases h;rename_i id off n hx;split at h;rename_i T' t xs ho;split at h;rename_i hsz;split at h;rename_i d hd;refine⟨_,_,h,fun R' k'=>by simp only[evalOp,BF,hu,hy,hx,ho,hsz,hd],AL fun w F m ρc o hop hty hi hr => ?_⟩;simp only[Abb]at hsz;obtain⟨i',hi0,hsz'⟩:=Av hsz;obtain⟨a1,a2,a3⟩:=C6 hd;have hrx:=hr x;rw[hx]at hrx;unfold Rep at hrx;rw[ho]at hrx;obtain⟨hle,hrx⟩:=hrx;have hcl:(HT off n xs).length=n:=by unfold HT;rw[Abn,Ab2];omega
 rw[hcl]at a2;obtain⟨hpos,hob⟩:=hi.obj id _ ho;cases hm:m id with
  |none=>
   rw[hm]at hob;simp only at hob;subst hob;have:n=0:=by have:=hle;simp at this;exact this.2
   omega
  |some p=>obtain⟨b,cap⟩:=p;rw[hm]at hrx hob;obtain⟨vs,row,e1,e2,_⟩:=hob;obtain⟨a,e3,e4⟩:=hrx;have e4:=e4 (by omega);subst e4;refine⟨_,BO hop e3 (As (hy▸hr y)) (Cp hu hi0 ⟨b,off*t.size,none⟩ _ _ j a1 a2),?_⟩;unfold Rep;rw[ho];exact⟨by unfold AE;omega,b,cap,hm,by rw[Bp,hsz'];simp[AE,Ab1]⟩
 cases h;cases h;cases h;cases h;rename_i n e j i hu hy;cases hat:QZ H n (ρ x)with
  |some q=>
   obtain⟨id,s,len⟩:=q;rw[hat]at h;simp only at h;split at h;rename_i hs;split at h;rename_i hc;refine⟨_,_,h,fun R' k'=>by simp only[evalOp,BF,hu,hy,hat,hs,hc],AL fun w F m ρc o hop hty hi hr => ?_⟩;simp only[Abb]at hs;obtain⟨i',hi0,hsz'⟩:=Av hs;simp only[Aba,Gy,GH,Abb]at hc;obtain⟨hd1,hd2,hd3⟩:=hc;have hd1:(0:Int)≤i:=hd1;have hd2:i<(n:Int):=hd2;unfold QZ at hat;split at hat;rename_i id' n' hx;split at hat;rename_i T' t xs ho;split at hat;cases hat;have hrx:=hr x;rw[hx]at hrx;unfold Rep EK at hrx;rw[ho]at hrx;obtain⟨_,b,e1,e2⟩:=hrx;have hrun:(Instr.indexAt T (.pointer (some ⟨b,0,none⟩)) (.int j i)).run P w = .ok (.pointer (some ((⟨b,0,none⟩:Addr).add (i.toNat*i'.size)))) w:=by simp[Instr.indexAt,asIntOf,run_underlying hu,Instr.sureAddr,hd1,hd2,run_sizeOf hi0]
   refine⟨_,BO hop e2 (As (hy▸hr y)) hrun,?_⟩;unfold Rep;rw[ho];refine⟨?_,b,_,e1,by rw[Bp,hsz'];simp[AE]⟩;exact(Int.toNat_lt (n:=List.length (α:=t.den) xs) hd1).2 hd3;cases hat;cases hat;cases hat;cases h;cases h
  |none=>rw[hat]at h;simp only at h;cases hg:gAt (ρ x)with
  |some q=>
   obtain⟨kk,ns⟩:=q;rw[hg]at h;simp only at h;split at h;rename_i hs;split at h;rename_i hc;refine⟨_,_,h,fun R' k'=>by simp only[evalOp,BF,hu,hy,hat,hg,hs,hc],AL fun w F m ρc o hop hty hi hr => ?_⟩;simp only[Abb]at hs;obtain⟨i',hi0,hsz'⟩:=Av hs;simp only[Aba,Gy,GH,Abb]at hc;obtain⟨hd1,hd2,hd3⟩:=hc;have hd1:(0:Int)≤i:=hd1;have hd2:i<(n:Int):=hd2;unfold gAt at hg;split at hg;rename_i g hx;have hrx:=hr x;rw[hx]at hrx;unfold Rep at hrx;simp only[Abc]at hg;obtain⟨p,hp,hp2⟩:=hg;have hpm:=List.mem_of_find?_eq_some hp;have hpg:p.1=g:=by simpa using List.find?_some hp
   obtain⟨g1,g2⟩:=hi.glo p hpm;rw[hp2]at g2;have hrun:(Instr.indexAt T (.pointer (some ⟨g,0,none⟩)) (.int j i)).run P w = .ok (.pointer (some ((⟨g,0,none⟩:Addr).add (i.toNat*i'.size)))) w:=by simp[Instr.indexAt,asIntOf,run_underlying hu,Instr.sureAddr,hd1,hd2,run_sizeOf hi0]
   refine⟨_,BO hop hrx (As (hy▸hr y)) hrun,?_⟩;have hlt:i.toNat<ns.length:=(Int.toNat_lt hd1).2 hd3;unfold Rep;refine⟨_,[.int kk (AI ns (AE i) 0)],rfl,fun _=>by rw[Fv,← hpg];exact g1,?_,fun u hu => ?_,fun jj u hu => ?_⟩;unfold AP;exact⟨_,_,rfl,by unfold Rep BT;exact rfl,by unfold AP;rfl⟩;rw[Ac2]at hu;subst hu;rfl;cases jj with
    |zero=>simp only[Abr,AbZ]at hu;subst hu;rw[Bp,Bp,hsz',AdI,Ab5,Acj,← hpg];exact g2 i.toNat _ (by rw[Abg hlt];simp[AI,AE,hlt])
    |succ jj=>simp at hu
   cases hg;cases h;cases h
  |none=>
   rw[hg]at h;simp only at h;split at h;rename_i s hs hd;obtain⟨i',hi0,rfl⟩:=Av hs;have hd':=hd;simp only[Abb]at hd';have hd1:0≤i:=hd'.1;have hd2:i<(n:Int):=hd'.2;have hrun:∀ (w:World) (ad:Addr),(Instr.indexAt T (.pointer (some ad)) (.int j i)).run P w = .ok (.pointer (some (ad.add (i.toNat*i'.size)))) w:=by intro w ad;simp[Instr.indexAt,asIntOf,run_underlying hu,Instr.sureAddr,hd1,hd2,run_sizeOf hi0]
   split at h;rename_i id o' hx;split at h;rename_i hl;obtain⟨cs,ho⟩:=Hv hl;refine⟨_,_,h,fun R' k'=>by have hat':=hat;have hg':=hg;rw[hx]at hat' hg';simp only[evalOp,BF,hu,hy,hat',hg',hs,hd,hx,hl],AL fun w F m ρc o hop hty hi hr => ?_⟩
   obtain⟨b,c,vs,T,e1,e2,_⟩:=L1 hi ho (hx▸hr x);refine⟨_,BO hop e2 (As (hy▸hr y)) (hrun w _),?_⟩;unfold Rep;rw[ho];exact⟨b,c,e1,by rw[Bp]⟩;cases h;rename_i id jj s hx;split at h;rename_i hl;obtain⟨T',t,xs,ho⟩:=DL hl;refine⟨_,_,h,fun R' k'=>by have hat':=hat;have hg':=hg;rw[hx]at hat' hg';simp only[evalOp,BF,hu,hy,hat',hg',hs,hd,hx,hl],AL fun w F m ρc o hop hty hi hr => ?_⟩
   obtain⟨b,c,vs,row,e1,e2,e3,_⟩:=IF hi ho (hx▸hr x);refine⟨_,BO hop e2 (As (hy▸hr y)) (hrun w _),?_⟩;unfold Rep;rw[ho];exact⟨e3,b,c,e1,by rw[Bp,Ada]⟩;cases h;rename_i cs hx;refine⟨_,_,h,fun R' k'=>by have hat':=hat;have hg':=hg;rw[hx]at hat' hg';simp only[evalOp,BF,hu,hy,hat',hg',hs,hd,hx],AL fun w F m ρc o hop hty hi hr => ?_⟩
   have hrx:=hr x;rw[hx]at hrx;unfold Rep at hrx;obtain⟨ad,us,e1,e2,e3,e4,e5⟩:=hrx;refine⟨_,BO hop e1 (As (hy▸hr y)) (hrun w _),?_⟩;unfold Rep;exact⟨_,us.drop (i.toNat*i'.size),rfl,fun hne=>by rw[Fv];exact e2 (by rintro rfl;simp at hne),Dy e3 _,fun u hu=>e4 u (AcT hu),fun j u hu=>by rw[add_add];rw[Ab4]at hu;exact e5 _ u hu⟩
   cases h;cases h
 cases h
end
end Go.Pev
end
section
namespace Go.Pev
open Go.RowKit
section
variable {P:Program} {E:Env}
theorem AO5{α:Type}{a:Array α}{x:α}(h:a.toList=[x]):a = #[x]:=by rw[← AcU (xs:=a),h]
theorem AYs{α:Type}{a:Array α}{x y:α}(h:a.toList=[x,y]):a = #[x,y]:=by rw[← AcU (xs:=a),h]
theorem P4{w:World}{F:Nat→Prop}{a b:Ty}:∀ {es:List (a.den×b.den)} {ms:List MapEntry},GX w F a b es ms→ms.length=es.length:=by
 intro es;induction es with
  |nil=>rintro ms rfl;rfl
  |cons e es ih=>rintro ms ⟨me,ms',rfl,_,h⟩;simp[ih h]
theorem EE{w w':World}{ρc:Operand→Value}{o:Oper}{T:TypeId}{x:Operand}{v u:Value}(hop:o.op = .call { callee:=.builtin .len,args:=#[x],argTypes:=#[T] })(e1:ρc x=v)
  (hrun:(Builtin.len_ #[T] o.type #[v]).run P w = .ok u w'):(execOp ρc o).run P w = .ok (.value u) w':=by simp[execOp,hop,resolve,invoke,builtin,e1,hrun]
theorem BL{w:World}{T e ty:TypeId}(hu:P.underlying T=some (.slice e))(a:Option Addr)(n c:Nat):(Builtin.len_ #[T] ty #[.slice a n c]).run P w = .ok (.int .i64 n) w:=by simp[Builtin.len_,run_underlying hu,goInt]
theorem AOd(args:Array Operand)(ts:Array TypeId):Claim P E (.call { callee:=.builtin .len,args:=args,argTypes:=ts }):=by
 intro R ty ρ H fz slot k r h;simp only[evalOp,It]at h;split at h;rename_i x T ha hts;obtain rfl:=AO5 ha;obtain rfl:=AO5 hts;split at h;rename_i e hu;split at h;rename_i t xs hx;refine⟨_,_,h,fun R' k'=>by simp only[evalOp,It,hu,hx],AL fun w F m ρc o hop hty hi hr => ?_⟩;have hrx:=hr x;rw[hx]at hrx;have hrx:Dat w F (.slice t) xs [ρc x]:=hrx;obtain⟨a,cap,e1,_⟩:=hrx;simp only[AcY,AdQ]at e1;exact⟨_,EE hop e1 (BL hu _ _ _),Aj _ _⟩;rename_i hx;refine⟨_,_,h,fun R' k'=>by simp only[evalOp,It,hu,hx],AL fun w F m ρc o hop hty hi hr => ?_⟩;have hrx:=hr x;rw[hx]at hrx;unfold Rep at hrx;exact⟨_,EE hop hrx (BL hu _ _ _),Aj _ _⟩;rename_i id hx;split at h;rename_i T' t xs ho;refine⟨_,_,h,fun R' k'=>by simp only[evalOp,It,hu,hx,ho],AL fun w F m ρc o hop hty hi hr => ?_⟩;have hrx:=hr x;rw[hx]at hrx;unfold Rep at hrx;rw[ho]at hrx;obtain⟨_,hob⟩:=hi.obj id _ ho;cases hm:m id with
  |none=>rw[hm]at hrx hob;obtain⟨a,e1⟩:=hrx;simp only at hob;subst hob;exact⟨_,EE hop e1 (BL hu _ _ _),Aj _ _⟩
  |some p=>rw[hm]at hrx;exact⟨_,EE hop hrx (BL hu _ _ _),Aj _ _⟩
 rename_i T' tgt is ho;refine⟨_,_,h,fun R' k'=>by simp only[evalOp,It,hu,hx,ho],AL fun w F m ρc o hop hty hi hr => ?_⟩;have hrx:=hr x;rw[hx]at hrx;unfold Rep at hrx;rw[ho]at hrx;have hob:=hi.obj id _ ho;cases hm:m id with
  |none=>rw[hm]at hrx hob;obtain⟨a,e1⟩:=hrx;have hob:is=[]:=hob;subst hob;exact⟨_,EE hop e1 (BL hu _ _ _),Aj _ _⟩
  |some p=>rw[hm]at hrx;exact⟨_,EE hop hrx (BL hu _ _ _),Aj _ _⟩
 cases h;rename_i id off n hx;split at h;rename_i hl;obtain⟨T',t,xs,ho⟩:=DL hl;refine⟨_,_,h,fun R' k'=>by simp only[evalOp,It,hu,hx,hl],AL fun w F m ρc o hop hty hi hr => ?_⟩;have hrx:=hr x;rw[hx]at hrx;unfold Rep at hrx;rw[ho]at hrx;obtain⟨_,hrx⟩:=hrx;cases hm:m id with
  |none=>rw[hm]at hrx;obtain⟨a,e1⟩:=hrx;exact⟨_,EE hop e1 (BL hu _ _ _),Aj _ _⟩
  |some p=>rw[hm]at hrx;obtain⟨a,e1,_⟩:=hrx;exact⟨_,EE hop e1 (BL hu _ _ _),Aj _ _⟩
 cases h;cases h;rename_i kt vt hu;split at h;rename_i id hx;split at h;rename_i a b es ho;refine⟨_,_,h,fun R' k'=>by simp only[evalOp,It,hu,hx,ho],AL fun w F m ρc o hop hty hi hr => ?_⟩;have hrx:=hr x;rw[hx]at hrx;unfold Rep at hrx;rw[ho]at hrx;obtain⟨bb,c,e1,e2⟩:=hrx;obtain⟨b',c',ms,clock,e3,e4,e5,_⟩:=hi.obj id _ ho;rw[e1]at e3;cases e3;refine⟨_,EE hop e2 (u:=.int .i64 (ms.size:Int)) ?_,?_⟩;simp[Builtin.len_,run_underlying hu,goInt,getObj,Sem.run,e4];have:=P4 e5;rw[Abe]at this;rw[this];exact Aj _ _;cases h;cases h;cases h;cases h
theorem DC{w:World}{F:Nat→Prop}{m:Mp}{H:List Ob}{fz:List Bool}(hi:HI w F m H fz){t:Ty}{v:AV}{ys:List t.den}{fr:List Nat}(h:Dn H (.slice t) v=some (ys,fr)){u:Value}(hr:Rep w F m H v u):
  ∃ a cap,u = .slice a ys.length cap∧ys.length≤cap∧(ys≠[]→a.isSome=true)∧∃ news,rows (Dat w F t) ys news∧∀ ad,a=some ad→∀ j u,news[j]? = some u→w.cell? (ad.add j)=some u:=by
 change DD H (.slice t) v=some (ys,fr)at h;unfold DD at h;split at h;rename_i t' d;simp only[Abc,Abf]at h;obtain⟨y,h1,rfl,rfl⟩:=h;obtain⟨e,h2⟩:=CY h1;subst e;simp only at h2;subst h2;have hrx:Dat w F (.slice t) d [u]:=hr;obtain⟨a,cap,e1,e2,e3⟩:=hrx;simp only[AcY,AdQ]at e1;refine⟨a,cap,e1,e2,fun hne => ?_,?_⟩;obtain⟨ad,row,rfl,_⟩:=e3 hne;rfl;by_cases hne:d=[]
 subst hne;exact⟨[],rfl,fun ad _ j u hu=>by simp at hu⟩;obtain⟨ad,row,rfl,q1,q2,q3⟩:=e3 hne;exact⟨row,q2,fun ad' h=>by cases h;exact q3⟩;rename_i t' d;simp only[Abc,Abf]at h;obtain⟨y,h1,rfl,rfl⟩:=h;obtain⟨e,h2⟩:=CY h1;injection e with e;subst e;simp only at h2;subst h2;unfold Rep at hr;obtain⟨a,cap,e1,e2,e3⟩:=hr.1;simp only[AcY,AdQ]at e1;refine⟨a,cap,e1,e2,fun hne => ?_,?_⟩;obtain⟨ad,row,rfl,_⟩:=e3 hne;rfl;by_cases hne:d=[]
 subst hne;exact⟨[],rfl,fun ad _ j u hu=>by simp at hu⟩;obtain⟨ad,row,rfl,q1,q2,q3⟩:=e3 hne;exact⟨row,q2,fun ad' h=>by cases h;exact q3⟩;simp only[AbZ,Abf]at h;obtain⟨rfl,rfl⟩:=h;unfold Rep at hr;exact⟨none,0,hr,Abd _,fun h=>absurd rfl h,[],rfl,fun ad _ j u hu=>by simp at hu⟩;rename_i id;split at h;rename_i T e xs ho;simp only[Abc,Abf]at h;obtain⟨y,h1,rfl,rfl⟩:=h;obtain⟨e',h2⟩:=CY h1;injection e' with e';subst e';simp only at h2;subst h2;unfold Rep at hr;rw[ho]at hr;obtain⟨_,hob⟩:=hi.obj id _ ho;cases hm:m id with
  |none=>rw[hm]at hr hob;obtain⟨a,rfl⟩:=hr;simp only at hob;subst hob;exact⟨a,0,rfl,Abd _,fun h=>absurd rfl h,[],rfl,fun ad _ j u hu=>by simp at hu⟩
  |some p=>obtain⟨b,cap⟩:=p;rw[hm]at hr hob;obtain⟨vs,row,e1,e2,e3,e4,e5,e6⟩:=hob;refine⟨_,cap,hr,e2,fun _=>rfl,row,e5,fun ad h j u hu => ?_⟩;cases h;rw[Bp,Ab5,Ck e1];exact CQ e6 hu
 cases h;rename_i id off n;split at h;rename_i T e xs ho;simp only[Abc,Abf]at h;obtain⟨y,h1,rfl,rfl⟩:=h;obtain⟨e',h2⟩:=CY h1;injection e' with e';subst e';simp only at h2;subst h2;unfold Rep at hr;rw[ho]at hr;obtain⟨hle,hr⟩:=hr;have hcl:(HT off n xs).length=n:=by unfold HT;rw[Abn,Ab2];omega
 obtain⟨_,hob⟩:=hi.obj id _ ho;cases hm:m id with
  |none=>
   rw[hm]at hr hob;obtain⟨a,rfl⟩:=hr;simp only at hob;subst hob;have hn:n=0:=by have:=hle;simp at this;exact this.2
   subst hn;have hd:HT off 0 ([]:List e.den)=[]:=by simp[HT]
   exact⟨a,0,by rw[hcl],by rw[hcl];omega,fun h=>absurd hd h,[],by rw[hd];rfl,fun ad _ j u hu=>by simp at hu⟩
  |some p=>
   obtain⟨b,cap⟩:=p;rw[hm]at hr hob;obtain⟨vs,row,e1,e2,e3,e4,e5,e6⟩:=hob;obtain⟨a,rfl,ha⟩:=hr;have hk:=fun(x:e.den) cs (h:Dat w F e x cs)=>Dat.length e h;have hrw:=DI hk n (Fq hk off e5);refine⟨a,cap-off,by rw[hcl],by rw[hcl];omega,fun hne => ?_,_,hrw,fun ad h j u hu => ?_⟩;have hn:0<n:=by rcases AcK n with h0|h0;exact absurd (Abh (hcl.trans h0)) hne;exact h0
   rw[ha (by omega)];rfl;have hn:0<n:=by rcases AcK n with h0|h0;subst h0;simp at hu;exact h0
   rw[ha (by omega)]at h;cases h;rw[Bp,Ck e1];rw[Abx]at hu;split at hu;rw[Ab4]at hu;exact CQ e6 hu;cases hu
 cases h;split at h;simp[cast]at h;cases h;cases h
end
end Go.Pev
end
section
namespace Go.Pev
open Go.RowKit
section
variable {P:Program} {E:Env}
theorem Aa.kill{w:World}{F:Nat→Prop}{m:Mp}{H:List Ob}{fz:List Bool}(hi:HI w F m H fz){j:Nat}(hoj:owned H fz j):Aa w F m H fz w F m (H.set j .dead) fz:=by
 obtain⟨oj,hj,hjf,hjd⟩:=Dt hoj;have hlt:=AY hj;have hgj:(H.set j .dead)[j]? = some .dead:=Ak hlt;have hcomp:Bz H (H.set j .dead) m m:=by
  intro i x hix hf;by_cases hij:i=j;subst hij;exact .inl hgj;rcases Bz.refl H m i x hix hf with h|⟨hd,x',h4,h5,_⟩
  exact .inl (by rw[AR hij];exact h);exact .inr ⟨hd,x',by rw[AR hij];exact h4,h5,rfl,fun _ _ _=>rfl⟩
 have hown:∀ i:Ix,owned (H.set j .dead) fz i→owned H fz i:=fun i hoi=>by by_cases hij:i.id=j;obtain⟨o,ho,_,hd⟩:=Cf hoi;rw[hij,hgj]at ho;cases ho;exact absurd rfl hd;exact(CH (AR hij)).1 hoi
 refine⟨⟨rfl,rfl,rfl,Abd _,fun _ _ _=>rfl,fun _ h=>h,fun _ h=>.inl h,fun i b c h1 h2=>.inl ⟨i,c,hown i h1,h2⟩,hcomp⟩,⟨?_,?_,?_,?_,?_,?_,hi.lt,hi.glo,by simpa using hi.len⟩⟩;intro id x hix;by_cases hij:id=j;subst hij;rw[hgj]at hix;cases hix;trivial;rw[AR hij]at hix;exact ObI.mono (fun _ _=>rfl) (fun _ h=>h) hcomp (fun _ _ _ _ _ _=>rfl) (hi.obj id x hix);intro i;by_cases hij:i=j;subst hij;exact Bk.plain hgj rfl;exact Bk.mono (fun _ _=>rfl) (fun _ h=>h) hcomp (AR hij) (fun _ _=>rfl) (fun _ _ _ _ _ _ _=>rfl) (hi.row i);intro i T e t xs ver out hio hf x hx ht b c hm;by_cases hij:i=j;subst hij;rw[hgj]at hio;cases hio;rw[AR hij]at hio;exact hi.rfz i T e t xs ver out hio hf x hx ((CF (by rw[hx];exact AR hij)).1 ht) b c hm;exact fun i k b c b' c' h1 h2=>hi.sep i k b c b' c' (hown i h1) (hown k h2);exact fun i b c h1=>hi.off i b c (hown i h1);intro i T t xs b c hio hf hmi;by_cases hij:i=j;subst hij;rw[hgj]at hio;cases hio;rw[AR hij]at hio;exact hi.froz i T t xs b c hio hf hmi
theorem Hz{H:List Ob}{fz:List Bool}{slot j:Nat}{o:Ob}(h:Ai H fz slot=true)(hne:slot≠j):Ai (H.set j o) fz slot=true:=by unfold Ai at *;rw[AR hne];exact h
theorem Bi{w w':World}{ρc:Operand→Value}{o:Oper}{T:TypeId}{s x:Operand}{v n u:Value}(hop:o.op = .call { callee:=.builtin .append,args:=#[s,x],argTypes:=#[T,T] })(e1:ρc s=v)(e2:ρc x=n)
  (hrun:(Builtin.append_ #[T,T] o.type #[v,n]).run P w = .ok u w'):(execOp ρc o).run P w = .ok (.value u) w':=by simp[execOp,hop,resolve,invoke,builtin,e1,e2,hrun]
theorem FH{w:World}{T e ty:TypeId}{i:TypeInfo}(hu:P.underlying T=some (.slice e))(hi:P.info? e=some i)(a:Option Addr){n cap:Nat}(hn:n≤cap)(A:Option Addr)(c:Nat):
  (Builtin.append_ #[T,T] ty #[.slice a n cap,.slice A 0 c]).run P w = .ok (.slice a n cap) w:=by
 have hf:(Builtin.firstCells i.size 0 (.slice A 0 c)).run P w = .ok #[] w:=by
  cases A with
   |none=>simp[Builtin.firstCells]
   |some ad=>simp[Builtin.firstCells,Go.loadCells,loadCellsFrom]
 cases a with
  |none=>simp[Builtin.append_,run_underlying hu,run_sizeOf hi,Builtin.lenOf,hn,hf]
  |some ad=>simp[Builtin.append_,run_underlying hu,run_sizeOf hi,Builtin.lenOf,hn,hf,storeCells]
structure AbX(w:World)(a:Option Addr)(n cap:Nat)(e:TypeId)(sz:Nat)(m:Nat)(old news:List Value)(v:Value)(w':World):Prop where
 os:w'.os=w.os
 tape:w'.tape=w.tape
 output:w'.output=w.output
 size:w.heap.size≤w'.heap.size
 keep:∀ k,k<w.heap.size→(∀ b,a=some ⟨b,0,none⟩→k≠b)→w'.heap[k]? = w.heap[k]?
 res:(m=0∧v = .slice a n cap∧w'=w)∨(∃ g cap' vs,v = .slice (some ⟨g,0,none⟩) (n+m) cap'∧w'.heap[g]? = some (.cells vs e (0,0))∧n+m≤cap'∧cap'≤maxLen∧vs.size=cap'*sz ∧
   vs.toList.take ((n+m)*sz)=old++news∧(w.heap.size≤g∨a=some ⟨g,0,none⟩))
theorem Kl{w:World}{T e ty:TypeId}{i:TypeInfo}{z:Value}(hu:P.underlying T=some (.slice e))(hi:P.info? e=some i)(hz:i.zero=some z)(hzs:z.cells.size=i.size)(hsz:0<i.size)
  {b n cap:Nat} {vs:Array Value} (hb:w.heap[b]? = some (.cells vs e (0,0))) (hn:n≤cap) (hmax:cap≤maxLen) (hvs:vs.size=cap*i.size) {A:Option Addr} {m c:Nat} {news:List Value} (hl:news.length=m*i.size)
  (hA:0<m→A.isSome=true) (hnews:∀ ad,A=some ad→∀ j u,news[j]? = some u→w.cell? (ad.add j)=some u) (h1:∀ u∈news,u.oneCell'=true) (hfit:n+m≤4294967296) (hby:i.bytes≤1024) :
  ∃ v w',(Builtin.append_ #[T,T] ty #[.slice (some ⟨b,0,none⟩) n cap,.slice A m c]).run P w = .ok v w'∧AbX w (some ⟨b,0,none⟩) n cap e i.size m (vs.toList.take (n*i.size)) news v w':=by
 have hbytes:(n+m)*i.bytes≤140737488355328:=AcX (AdA hfit hby) (by omega);have hown:w.ownsRow 0 e i.size (.slice (some ⟨b,0,none⟩) n cap) n (vs.toList.take (n*i.size)):=by refine⟨?_,.inr ⟨b,cap,vs,rfl,Nat.zero_le _,hb,hn,hmax,hvs,rfl⟩⟩;rw[Abn,Abe,hvs];exact Acw (Ab0 _ hn)
 cases A with
  |none=>
   have hm:m=0:=by rcases AcK m with h0|h0;exact h0;exact absurd (hA h0) (by simp)
   subst hm;exact⟨_,w,FH hu hi _ hn none c,rfl,rfl,rfl,Abd _,fun _ _ _=>rfl,.inl ⟨rfl,rfl,rfl⟩⟩
  |some ad=>
   obtain⟨v',w',hrun,⟨hl',hres⟩,hg,_,hat⟩:=run_append_own_at (P:=P) w 0 T ty e i z i.size i.bytes hu hi hz rfl rfl hzs hsz _ n _ hown ad m c news hl (hnews ad rfl) h1 (by simp only[maxLen];omega) hbytes (Nat.zero_le _);refine⟨v',w',hrun,hg.os,hg.tape,hg.output,hg.size,fun k hk hne=>hg.block k hk (by simp[Value.ownBlock];exact hne b rfl),.inr ?_⟩;rcases hres with⟨rfl,h0⟩|⟨g,cap',cur,rfl,_,h2,h3,h4,h5,h6⟩
   rcases hat with h|h<;>simp[Value.ownBlock]at h;refine⟨g,cap',cur,rfl,h2,h3,h4,h5,h6,?_⟩;rcases hat with h|h;simp only[Value.ownBlock,AbZ]at h;subst h;exact .inr rfl;simp only[Value.ownBlock,AbZ]at h;subst h;exact .inl (Abd _)
theorem Gs{w:World}{T e ty:TypeId}{i:TypeInfo}{z:Value}(hu:P.underlying T=some (.slice e))(hi:P.info? e=some i)(hz:i.zero=some z)(hzs:z.cells.size=i.size)
  (a:Option Addr) {A:Option Addr} {m c:Nat} {news:List Value} (hl:news.length=m*i.size)
  (hA:0<m→A.isSome=true) (hnews:∀ ad,A=some ad→∀ j u,news[j]? = some u→w.cell? (ad.add j)=some u) (hfit:m≤4294967296) (hby:i.bytes≤1024) :
  ∃ v w',(Builtin.append_ #[T,T] ty #[.slice a 0 0,.slice A m c]).run P w = .ok v w'∧w'.os=w.os∧w'.tape=w.tape∧w'.output=w.output∧w.heap.size≤w'.heap.size∧(∀ k,k<w.heap.size→w'.heap[k]? = w.heap[k]?) ∧
   ((m=0∧v = .slice a 0 0)∨(∃ cap' vs,v = .slice (some ⟨w.heap.size,0,none⟩) m cap'∧w'.heap[w.heap.size]? = some (.cells vs e (0,0))∧m≤cap'∧cap'≤maxLen∧vs.size=cap'*i.size∧vs.toList.take (m*i.size)=news)):=by
 rcases AcK m with h0|h0;subst h0;exact⟨_,w,FH hu hi a (Abd _) A c,rfl,rfl,rfl,Abd _,fun _ _=>rfl,.inl ⟨rfl,rfl⟩⟩;obtain⟨ad,rfl⟩:=AcP.1 (hA h0);have hmb:m*i.bytes≤281474976710656:=AcX (AdA hfit hby) (by omega);have hge:=grownCap_ge w m 0 e;have hle:=grownCap_le_maxLen w m 0 e (by simp only[maxLen];omega);have fin:∀ vs:Array Value,vs.toList=news++(Builtin.zeroCells z.cells (grownCap w m 0 e-m)).toList→vs.size=grownCap w m 0 e*i.size∧vs.toList.take (m*i.size)=news:=by intro vs hvs;refine⟨?_,?_⟩;rw[← Abe,hvs,Abl,hl,Abe,size_zeroCells,hzs,← Ab1];congr 1;omega;rw[hvs,← hl];exact AdN
 cases a with
  |none=>have hr:=run_append_nil (P:=P) w T ty e i z hu hi hz ad m c news hl (hnews ad rfl) h0 (by omega) hmb;obtain⟨f1,f2⟩:=fin (news.toArray++Builtin.zeroCells z.cells (grownCap w m 0 e-m)) (by simp);exact⟨_,_,hr,rfl,rfl,rfl,by simp,fun k hk=>heap_alloc_old w.drew _ k hk,.inr ⟨_,_,rfl,heap_alloc_new w.drew _,hge,hle,f1,f2⟩⟩
  |some b=>
   have hr:=run_append_grow (P:=P) w T ty e i z hu hi hz b 0 0 [] (by simp) (fun j v h=>by simp at h) ad m c news hl (hnews ad rfl) (by omega) (by omega) (by rw[Ab5];have:Builtin.nextslicecap m 0=m:=nextslicecap_zero h0;rw[this];exact hmb)
   simp only[Ab5]at hr;obtain⟨f1,f2⟩:=fin (([]:List Value).toArray++news.toArray++Builtin.zeroCells z.cells (grownCap w m 0 e-m)) (by simp);exact⟨_,_,hr,rfl,rfl,rfl,by simp,fun k hk=>heap_alloc_old w.drew _ k hk,.inr ⟨_,_,rfl,heap_alloc_new w.drew _,hge,hle,f1,f2⟩⟩
end
end Go.Pev
end
section
namespace Go.Pev
open Go.RowKit
section
variable {P:Program} {E:Env}
theorem W3{H:List Ob}{fz:List Bool}{slot id:Nat}{T:TypeId}{t:Ty}{xs:List t.den}(hf:Ai H fz slot=true)(ho:H[id]? = some (.arr T t xs)):slot≠id:=by rintro rfl;rw[(A3 hf).1]at ho;cases ho
theorem EJ{w:World}{F:Nat→Prop}{m:Mp}{H:List Ob}{fz:List Bool}(hi:HI w F m H fz){slot:Nat}(hf:Ai H fz slot=true){T e ty:TypeId}{t:Ty}{i:TypeInfo}{z:Value}(hu:P.underlying T=some (.slice e))
  (hi0:P.info? e=some i) (hz:i.zero=some z) (hzs:z.cells.size=i.size) (hsz:i.size=t.size) (hpos:0<t.size) (hby:i.bytes≤1024) {ys:List t.den} (hfit:ys.length≤4294967296) (a:Option Addr)
  {A:Option Addr} {c:Nat} {news:List Value} (hA:ys≠[]→A.isSome=true) (hrows:rows (Dat w F t) ys news) (hnews:∀ ad,A=some ad→∀ j u,news[j]? = some u→w.cell? (ad.add j)=some u) :
  ∃ v w' m',(Builtin.append_ #[T,T] ty #[.slice a 0 0,.slice A ys.length c]).run P w = .ok v w'∧Aa w F m H fz w' F m' (H.set slot (.arr e t ys)) fz∧Rep w' F m' (H.set slot (.arr e t ys)) (.own slot) v:=by
 have hk:=fun(x:t.den) cs (h:Dat w F t x cs)=>Dat.length t h;have hl:=Ar hk hrows;obtain⟨v,w',hrun,h1,h2,h3,h4,h5,h6⟩:=Gs (P:=P) (w:=w) (ty:=ty) hu hi0 hz hzs a (A:=A) (m:=ys.length) (c:=c) (news:=news) (by rw[hl,hsz]) (fun h=>hA (by rintro rfl;simp at h)) hnews hfit hby;rcases h6 with⟨h0,rfl⟩|⟨cap',vs,rfl,q1,q2,q3,q4,q5⟩
 have hy:ys=[]:=Abh h0;subst hy;have hgw:=Aa.grow hi h1 h2 h3 h4 h5;obtain⟨m',hg,hrep⟩:=C8 hgw.2 hf e hpos a;exact⟨_,w',m',hrun,hgw.trans hg,hrep⟩;obtain⟨m',hg,hrep⟩:=EA hi hf hpos q1 h1 h2 h3 h4 h5 q2 q3 (by rw[q4,hsz]) hrows (by rw[hl,← hsz];exact q5);exact⟨_,w',m',hrun,hg,hrep⟩
theorem ACB{w:World}{F:Nat→Prop}{m:Mp}{H:List Ob}{fz:List Bool}(hi:HI w F m H fz){slot:Nat}(hf:Ai H fz slot=true){T e ty:TypeId}{t:Ty}{i:TypeInfo}{z:Value}(hu:P.underlying T=some (.slice e))
  (hi0:P.info? e=some i) (hz:i.zero=some z) (hzs:z.cells.size=i.size) (hsz:i.size=t.size) (hpos:0<t.size) (hby:i.bytes≤1024) {xs ys:List t.den} (hfit:xs.length+ys.length≤4294967296) (hne:ys≠[])
  {s:Value} (hs:Rep w F m H (.clip t xs) s) {A:Option Addr} {c:Nat} {news:List Value} (hA:ys≠[]→A.isSome=true) (hrows:rows (Dat w F t) ys news) (hnews:∀ ad,A=some ad→∀ j u,news[j]? = some u→w.cell? (ad.add j)=some u) :
  ∃ v w' m',(Builtin.append_ #[T,T] ty #[s,.slice A ys.length c]).run P w = .ok v w'∧Aa w F m H fz w' F m' (H.set slot (.arr e t (xs++ys))) fz∧Rep w' F m' (H.set slot (.arr e t (xs++ys))) (.own slot) v:=by
 have hk:=fun(x:t.den) cs (h:Dat w F t x cs)=>Dat.length t h;unfold Rep at hs;obtain⟨⟨a0,cap0,q1,_,q3⟩,a,rfl⟩:=hs;simp only[AcY,Value.slice.injEq,AdQ]at q1;obtain⟨rfl, -, -⟩:=q1;by_cases hx:xs=[]
 subst hx;exact EJ hi hf hu hi0 hz hzs hsz hpos hby (by simpa using hfit) a hA hrows hnews;obtain⟨ad,row,rfl,hF,hr0,hc0⟩:=q3 hx;obtain⟨bd,rfl⟩:=AcP.1 (hA hne);have hl:=Ar hk hrows;have hrl:=Ar hk hr0;have hy0:0<ys.length:=List.length_pos_iff.2 hne;have hbytes:(xs.length+ys.length)*i.bytes≤140737488355328:=AcX (AdA hfit hby) (by omega);have hr:=run_append_grow (P:=P) w T ty e i z hu hi0 hz ad xs.length xs.length row (by rw[hrl,hsz]) hc0 bd ys.length c news (by rw[hl,hsz]) (hnews bd rfl) (by omega) (by omega) (growslice_fits (by omega) hbytes);have hge:=grownCap_ge w (xs.length+ys.length) xs.length e;have hle:=grownCap_le_maxLen w (xs.length+ys.length) xs.length e (by simp only[maxLen];omega);have hlen:(row++news).length=(xs.length+ys.length)*t.size:=by rw[Abl,hrl,hl,Ab1]
 obtain⟨m',hg,hrep⟩:=EA hi hf (w':=w.drew.alloc (.cells (row.toArray++news.toArray++Builtin.zeroCells z.cells (grownCap w (xs.length+ys.length) xs.length e-(xs.length+ys.length))) e)) hpos (xs:=xs++ys) (heap_alloc_new w.drew _) rfl rfl rfl (by simp) (fun b hb=>heap_alloc_old w.drew _ b hb)
  (cap:=grownCap w (xs.length+ys.length) xs.length e) (by simpa using hge) hle (by
   rw[Array.size_append,Array.size_append,Ab7,Ab7,size_zeroCells,hzs,hsz,hrl,hl,← Ab1,← Ab1];congr 1;omega) (F8 hr0 hrows) (by
   rw[Acp,Acp];exact AdN)
 rw[Abl]at hrep;exact⟨_,_,m',hr,hg,hrep⟩
theorem NZ{w:World}{F:Nat→Prop}{m:Mp}{H:List Ob}{fz:List Bool}(hi:HI w F m H fz){slot:Nat}(hf:Ai H fz slot=true){T e ty:TypeId}{t:Ty}{i:TypeInfo}{z:Value}(hu:P.underlying T=some (.slice e))
  (hi0:P.info? e=some i) (hz:i.zero=some z) (hzs:z.cells.size=i.size) (hsz:i.size=t.size) (hpos:0<t.size) (hby:i.bytes≤1024) {id:Nat} {xs:List t.den} (ho:H[id]? = some (.arr e t xs)) (hun:AW fz id=true)
  {b cap:Nat} (hm:m id=some (b,cap)) {n:Nat} (hn:n≤xs.length) {ys:List t.den} (hfit:n+ys.length≤4294967296)
  {A:Option Addr} {c:Nat} {news:List Value} (hA:ys≠[]→A.isSome=true) (hrows:rows (Dat w F t) ys news) (hnews:∀ ad,A=some ad→∀ j u,news[j]? = some u→w.cell? (ad.add j)=some u) :
  ∃ v w' m',(Builtin.append_ #[T,T] ty #[.slice (some ⟨b,0,none⟩) n cap,.slice A ys.length c]).run P w = .ok v w' ∧
   Aa w F m H fz w' F m' ((H.set id .dead).set slot (.arr e t (xs.take n++ys))) fz∧Rep w' F m' ((H.set id .dead).set slot (.arr e t (xs.take n++ys))) (.own slot) v:=by
 have hk:=fun(x:t.den) cs (h:Dat w F t x cs)=>Dat.length t h;have hl:=Ar hk hrows;obtain⟨_,hob⟩:=hi.obj id _ ho;rw[hm]at hob;obtain⟨vs,row,e1,e2,e3,e4,e5,e6⟩:=hob;have hrl:=Ar hk e5;have hold:vs.toList.take (n*i.size)=row.take (n*t.size):=by rw[← e6,Ac9,hsz,Acw (by rw[hrl];exact Ab0 _ hn)]
 obtain⟨v,w',hrun,hgr⟩:=Kl (P:=P) (w:=w) (ty:=ty) hu hi0 hz hzs (by omega) e1 (n:=n) (by omega) e3 (by rw[e4,hsz]) (A:=A) (m:=ys.length) (c:=c) (news:=news) (by rw[hl,hsz]) (fun h=>hA (by rintro rfl;simp at h)) hnews
  (fun u hu=>K1 (fun x cs (h:Dat w F t x cs)=>Dat.Fb t h) hrows u hu) hfit hby
 rw[hold]at hgr;have hlen:(xs.take n++ys).length=n+ys.length:=by rw[Abl,Abn];omega
 have hr0:=F8 (DI hk n e5) hrows;have hcell:∀ k,F k→w'.heap[k]? = w.heap[k]? := fun k ha=>by
  have h1:k≠b:=by rintro h;exact hi.off id b cap (Bx ho hun) hm (h▸ha)
  exact hgr.keep _ (hi.lt _ ha) (fun b' h=>by cases h;exact h1)
 have hlts:=AY (A3 hf).1;have hgs:((H.set id .dead).set slot (.arr e t (xs.take n++ys)))[slot]? = some (.arr e t (xs.take n++ys)):=Ak (by simpa using hlts)
 have main:∀ (g cap':Nat) (vs':Array Value),(w.heap.size≤g∨g=b)→w'.heap[g]? = some (.cells vs' e (0,0))→n+ys.length≤cap'→cap'≤maxLen→vs'.size=cap'*t.size→vs'.toList.take ((n+ys.length)*t.size)=row.take (n*t.size)++news →
   ∃ m',Aa w F m H fz w' F m' ((H.set id .dead).set slot (.arr e t (xs.take n++ys))) fz∧Rep w' F m' ((H.set id .dead).set slot (.arr e t (xs.take n++ys))) (.own slot) (.slice (some ⟨g,0,none⟩) (n+ys.length) cap'):=by
  intro g cap' vs' hg q1 q2 q3 q4 q5
  have:=Aa.move (w':=w') hi (Bx ho hun) hm hf (ob:=.arr e t (xs.take n++ys)) trivial (b':=g) (c':=cap') hg.symm hgr.os hgr.tape hgr.output hgr.size (fun k hk hne=>hgr.keep k hk (fun b' h=>by cases h;exact hne))
   (fun _=>⟨hpos,vs',row.take (n*t.size)++news,q1,by rw[hlen];exact q2,q3,q4,A2 (fun x _ cs hx=>hx.mono hcell (fun _ h=>h) t) hr0,by
    have:(row.take (n*t.size)++news).length=(n+ys.length)*t.size:=by rw[Ar hk hr0,hlen]
    rw[this];exact q5⟩)
  refine⟨_,this,?_⟩
  unfold Rep
  rw[hgs,Af,← hlen]
  rfl
 rcases hgr.res with⟨h0,rfl,rfl⟩|⟨g,cap',vs',rfl,q1,q2,q3,q4,q5,q6⟩
 have hy:ys=[]:=Abh h0;subst hy;obtain⟨m',hg,hrep⟩:=main b cap vs (.inr rfl) e1 (by simp;omega) e3 e4 (by cases hrows;rw[AcE,AcF,Acj];rw[hsz]at hold;exact hold)
 exact⟨_,_,m',hrun,hg,by simpa using hrep⟩;obtain⟨m',hg,hrep⟩:=main g cap' vs' (by rcases q6 with h|h;exact .inl h;cases h;exact .inr rfl) q1 q2 q3 (by rw[q4,hsz]) (by rw[← hsz]at *;exact q5);exact⟨_,_,m',hrun,hg,hrep⟩
theorem XB{w w':World}{ρc:Operand→Value}{o:Oper}{T T':TypeId}{s x:Operand}{v n u:Value}(hop:o.op = .call { callee:=.builtin .append,args:=#[s,x],argTypes:=#[T,T'] })(e1:ρc s=v)(e2:ρc x=n)
  (hrun:(Builtin.append_ #[T,T'] o.type #[v,n]).run P w = .ok u w'):(execOp ρc o).run P w = .ok (.value u) w':=by simp[execOp,hop,resolve,invoke,builtin,e1,e2,hrun]
theorem AB9{w:World}{F:Nat→Prop}{m:Mp}{H:List Ob}{fz:List Bool}(hi:HI w F m H fz){slot:Nat}(hf:Ai H fz slot=true){T T' e ty:TypeId}{t:Ty}{i:TypeInfo}{z:Value}(hu:P.underlying T=some (.slice e))
  (hi0:P.info? e=some i) (hz:i.zero=some z) (hok:Be (zeroCells t) z.cells.toList=true) (hsz:i.size=t.size) (hpos:0<t.size) (hby:i.bytes≤1024) {kt kx:IntKind} (hk:P.underlying T'=some (.int kt)) {n:Nat} (hfit:n≤4294967296) :
  ∃ v w' m',(Builtin.append_ #[T,T'] ty #[.slice none 0 0,.int kx n]).run P w = .ok v w'∧Aa w F m H fz w' F m' (H.set slot (.arr e t (List.replicate n t.zero))) fz∧Rep w' F m' (H.set slot (.arr e t (List.replicate n t.zero))) (.own slot) v:=by
 have hzd:=BJ (w:=w) (F:=F) t _ hok;have hzl:z.cells.size=t.size:=by rw[← Abe];exact Dat.length t hzd
 have hw:IntKind.i64.wrap (n:Int)=n:=IntWalk.i64_in _ (by omega);have hbb:(n:Int)*(i.bytes:Int)≤281474976710656:=by
  have:n*i.bytes≤4294967296*1024:=AdA hfit hby;have h2:((n*i.bytes:Nat):Int)≤281474976710656:=by omega
  rwa [Int.natCast_mul]at h2
 rcases AcK n with h0|h0;subst h0;obtain⟨m',hg,hrep⟩:=C8 (w:=w) hi hf e hpos none;refine⟨.slice none 0 0,w,m',?_,by simpa using hg,by simpa using hrep⟩;have hw0:IntKind.i64.wrap 0=0:=hw;simp[Builtin.append_,run_underlying hu,run_underlying hk,sizeOf,typeInfo,hi0,asInt,asIntOf,hw0];have hge:=grownCap_ge w n 0 e;have hle:=grownCap_le_maxLen w n 0 e (by simp only[maxLen];omega);have hrows:=D3 (w:=w) (F:=F) hzd n;have hrl:=Ar (fun x cs (h:Dat w F t x cs)=>Dat.length t h) hrows;rw[AcA]at hrl;have hcells:∀ k,(Builtin.zeroCells z.cells k).toList=(List.replicate k z.cells.toList).flatten:=CV z.cells;have hrun:(Builtin.append_ #[T,T'] ty #[.slice none 0 0,.int kx n]).run P w = .ok (.slice (some ⟨w.heap.size,0,none⟩) n (grownCap w n 0 e)) (w.drew.alloc (.cells (Builtin.zeroCells z.cells n++Builtin.zeroCells z.cells (grownCap w n 0 e-n)) e)):=by
  have hn:n≠0:=by omega
  have hn2:¬ ((n:Int)<0):=by omega
  have hn3:¬ (281474976710656<(n:Int)*(i.bytes:Int)):=by omega
  have h63':¬ (9223372036854775807<(n:Int)):=by omega
  have h48':¬ (281474976710656<Builtin.nextslicecap n 0*i.bytes):=by rw[nextslicecap_zero h0];have:n*i.bytes≤4294967296*1024:=AdA hfit hby;omega
  have hsz0:¬ (i.size=0):=by omega
  simp[Builtin.append_,run_underlying hu,run_underlying hk,sizeOf,typeInfo,zeroValue,hi0,hz,asInt,asIntOf,hw,hn,hn2,hn3,h63',h48',Question.forced,run_firstCells_none,newRow,grownCap];intro h;have:n*i.size≠0:=Nat.mul_ne_zero hn hsz0;omega
 obtain⟨m',hg,hrep⟩:=EA hi hf (w':=w.drew.alloc (.cells (Builtin.zeroCells z.cells n++Builtin.zeroCells z.cells (grownCap w n 0 e-n)) e)) hpos (xs:=List.replicate n t.zero) (heap_alloc_new w.drew _) rfl rfl rfl (by simp) (fun b hb=>heap_alloc_old w.drew _ b hb)
  (cap:=grownCap w n 0 e) (by simpa using hge) hle (by
   rw[Array.size_append,size_zeroCells,size_zeroCells,hzl,← Ab1];congr 1;omega) hrows (by
   rw[hrl,Acp,hcells,← hrl,AdN])
 rw[AcA]at hrep;exact⟨_,_,m',hrun,hg,hrep⟩
end
end Go.Pev
end
section
namespace Go.Pev
open Go.RowKit
section
variable {P:Program}
theorem J0{H:List Ob}{fz:List Bool}{ids:List Nat}{i:Ix}(h:owned H (AS ids fz) i):owned H fz i:=by
 cases i with
  |r i k=>simp only[owned]at *;split at h;rw[Al]at h;simp only[Ac5]at h;exact⟨h.1,h.2.1⟩;exact h.elim
  |o i=>
   simp only[owned,BY]at *;cases ho:H[i]? with
    |none=>rw[ho]at h;exact h.elim
    |some o=>
     rw[ho]at h;cases o with
      |free=>exact h.elim
      |dead=>exact h.elim
      |box cs=>trivial
      |map k v es=>trivial
      |prs T t is=>trivial
      |rows T e t xs ver out=>simp only at h ⊢;rw[Al]at h;simp only[Ac5]at h;exact h.1
      |arr T t xs=>simp only at h ⊢;rw[Al]at h;simp only[Ac5]at h;exact h.1
theorem TT{w w':World}{F:Nat→Prop}{m:Mp}{H:List Ob}{fz:List Bool}(hi:HI w F m H fz){id:Nat}{e:TypeId}{t:Ty}{xs:List t.den}(ho:H[id]? = some (.arr e t xs))(hun:AW fz id=true)
  (os:w'.os=w.os) (tape:w'.tape=w.tape) (output:w'.output=w.output) (size:w.heap.size≤w'.heap.size) (G:Nat→Prop)
  (hG:∀ k,G k→k<w'.heap.size∧((∃ c,m id=some (k,c))∨w.heap.size≤k)) (hb:∀ b c,m id=some (b,c)→G b)
  (hkeep:∀ k,k<w.heap.size→(∀ c,m id≠some (k,c))→w'.heap[k]? = w.heap[k]?)
  (hob:ObI w' (fun k=>F k∨G k) m H (.arr e t xs) (m id)):Aa w F m H fz w' (fun k=>F k∨G k) m H (AS [id] fz):=by
 have hid:=Bx ho hun;have hown:∀ i:Ix,owned H (AS [id] fz) i→owned H fz i∧i≠.o id:=by
  intro i h;refine⟨J0 h,?_⟩;rintro rfl;simp only[owned,BY]at h;rw[ho]at h;simp only at h;rw[Al]at h;have hl:id<fz.length:=by rw[← hi.len];exact AY ho
  simp[hl]at h
 have hcell:∀ k,F k→w'.heap[k]? = w.heap[k]? := fun k ha=>hkeep _ (hi.lt _ ha) (fun c hc=>hi.off id _ c hid hc ha);refine⟨⟨os,tape,output,size,fun b hb' hne=>hkeep b hb' (fun c hc=>hne id c hid hc),fun _ h=>.inl h,?_,fun i b c h1 h2=>.inl ⟨i,c,(hown i h1).1,h2⟩,Bz.refl H m⟩,⟨?_,?_,?_,?_,?_,?_,?_,hi.glo.mono hcell (fun _ h=>.inl h),by rw[Cc];exact hi.len⟩⟩;rintro b (h|h);exact .inl h;rcases(hG b h).2 with⟨c,hc⟩|h;exact .inr (.inl ⟨id,c,hid,hc⟩);exact .inr (.inr h);intro j o hj;by_cases hji:j=id;subst hji;rw[ho]at hj;cases hj;exact hob;exact ObI.mono hcell (fun _ h=>.inl h) (Bz.refl H m) (fun hf hd b c hl hlt=>hkeep b hlt (fun c' hc'=>hi.ne hid hc' hj hf hd hl hji rfl)) (hi.obj j o hj);intro i;by_cases hne:i=id;subst hne;exact Bk.plain ho rfl;exact Bk.mono hcell (fun _ h=>.inl h) (Bz.refl H m) rfl (fun _ _=>rfl) (fun x hx hox b c hl hlt=>hkeep b hlt (fun c' hc'=>hi.neX hid hc' hox hl (by rintro rfl;exact hne hx.symm) rfl)) (hi.row i);intro i T' e' t' xs' ver out hio hf x hx ht b c hm;have hne:i≠id:=by rintro rfl;rw[ho]at hio;cases hio
 rw[Al]at hf;simp only[AcC,Aba,Abb,Ac2]at hf;rcases hf with hf|⟨hf,_⟩
 exact .inl (hi.rfz i T' e' t' xs' ver out hio hf x hx ht b c hm);exact absurd hf hne;exact fun i j b c b' c' h1 h2=>hi.sep i j b c b' c' (hown i h1).1 (hown j h2).1;rintro i b c h1 h2 (hF|hg);exact hi.off i b c (hown i h1).1 h2 hF;rcases(hG b hg).2 with⟨c',hc'⟩|h;exact hi.sep i id b c b c' (hown i h1).1 hid (hown i h1).2 h2 hc' rfl;have:=hi.GD (hown i h1).1 h2;omega;intro i T t' xs' b c hio hf hmi;by_cases hii:i=id;subst hii;exact .inr (hb b c hmi);refine .inl (hi.froz i T t' xs' b c hio ?_ hmi);rw[Al]at hf;simpa [hii]using hf;rintro b (h|h);exact AcJ (hi.lt b h) size;exact(hG b h).1
theorem AT9{w':World}{F':Nat→Prop}{m:Mp}{H:List Ob}{g cap:Nat}{vs:Array Value}{e:TypeId}{t:Ty}{zs:List t.den}{row:List Value}(hg:w'.heap[g]? = some (.cells vs e (0,0)))(ht:vs.toList.take row.length=row)
  (hrows:rows (Dat w' F' t) zs row) (hle:zs.length≤cap) (hF:F' g) {n:Nat} (hn:n=zs.length):Rep w' F' m H (.data (.slice t) zs) (.slice (some ⟨g,0,none⟩) n cap):=by
 subst hn;unfold Rep;show Dat w' F' (.slice t) zs [_];refine⟨some ⟨g,0,none⟩,cap,rfl,hle,fun _=>⟨⟨g,0,none⟩,row,rfl,hF,hrows,fun j u hj => ?_⟩⟩;rw[Addr.add_lit,Ab5];have hj':vs.toList[j]? = some u:=by rw[← ht,Abx]at hj;split at hj;exact hj;cases hj
 rw[AcG]at hj';simp[World.cell?,hg,hj']
theorem ACA{w:World}{F:Nat→Prop}{m:Mp}{H:List Ob}{fz:List Bool}(hi:HI w F m H fz){T e ty:TypeId}{t:Ty}{i:TypeInfo}{z:Value}(hu:P.underlying T=some (.slice e))
  (hi0:P.info? e=some i) (hz:i.zero=some z) (hzs:z.cells.size=i.size) (hsz:i.size=t.size) (hpos:0<t.size) (hby:i.bytes≤1024) {id:Nat} {xs:List t.den} (ho:H[id]? = some (.arr e t xs)) (hun:AW fz id=true)
  {ys:List t.den} (hfit:xs.length+ys.length≤4294967296)
  {A:Option Addr} {c:Nat} {news:List Value} (hA:ys≠[]→A.isSome=true) (hrows:rows (Dat w F t) ys news) (hnews:∀ ad,A=some ad→∀ j u,news[j]? = some u→w.cell? (ad.add j)=some u)
  {s:Value} (hs:Rep w F m H (.own id) s) :
  ∃ v w' F',(Builtin.append_ #[T,T] ty #[s,.slice A ys.length c]).run P w = .ok v w'∧Aa w F m H fz w' F' m H (AS [id] fz)∧Rep w' F' m H (.data (.slice t) (xs++ys)) v:=by
 have hk:=fun(x:t.den) cs (h:Dat w F t x cs)=>Dat.length t h;have hl:=Ar hk hrows;have hid:=Bx ho hun;unfold Rep at hs;rw[ho]at hs;have hob:=hi.obj id _ ho;obtain⟨_,hob'⟩:=hob;cases hm:m id with
  |none=>
   rw[hm]at hs hob';obtain⟨a,rfl⟩:=hs;simp only at hob';subst hob';obtain⟨v,w',hrun,h1,h2,h3,h4,h5,h6⟩:=Gs (P:=P) (w:=w) (ty:=ty) hu hi0 hz hzs a (A:=A) (m:=ys.length) (c:=c) (news:=news) (by rw[hl,hsz]) (fun h=>hA (by rintro rfl;simp at h)) hnews (by simpa using hfit) hby;have hg:=TT (w':=w') hi ho hun h1 h2 h3 h4 (fun k=>k=w.heap.size∧k<w'.heap.size) (fun k hk=>⟨hk.2,.inr (Ac1 hk.1.symm)⟩) (fun b c h=>by rw[hm]at h;cases h) (fun k hk _=>h5 k hk) (by rw[hm];exact⟨hpos,rfl⟩)
   refine⟨v,w',_,hrun,hg,?_⟩;rw[AcS];rcases h6 with⟨h0,rfl⟩|⟨cap',vs,rfl,q1,q2,q3,q4,q5⟩
   have hy:ys=[]:=Abh h0;subst hy;unfold Rep;exact⟨a,0,rfl,Abd _,fun h=>absurd rfl h⟩;have hcell:∀ k,F k→w'.heap[k]? = w.heap[k]? := fun k ha=>h5 _ (hi.lt _ ha);exact AT9 q1 (by rw[hl,← hsz];exact q5) (A2 (fun x _ cs hx=>hx.mono hcell (fun _ h=>.inl h) t) hrows) q2 (.inr ⟨rfl,Am q1⟩) rfl
  |some p=>
   obtain⟨b,cap⟩:=p;rw[hm]at hs hob';simp only[At]at hs;obtain⟨vs,row,e1,e2,e3,e4,e5,e6⟩:=hob';subst hs;have hrl:=Ar hk e5;have hblt:b<w.heap.size:=Am e1;have hG:∀ (w':World),w.heap.size≤w'.heap.size→∀ k,(k=b∨(k=w.heap.size∧k<w'.heap.size))→k<w'.heap.size∧((∃ c,m id=some (k,c))∨w.heap.size≤k):=by rintro w' h k (rfl|⟨h1,h2⟩);exact⟨AcJ hblt h,.inl ⟨cap,hm⟩⟩;exact⟨h2,.inr (Ac1 h1.symm)⟩
   have main:∀ (w':World) (vs0:Array Value),w'.os=w.os→w'.tape=w.tape→w'.output=w.output→w.heap.size≤w'.heap.size→(∀ k,k<w.heap.size→k≠b→w'.heap[k]? = w.heap[k]?)→w'.heap[b]? = some (.cells vs0 e (0,0))→vs0.size=cap*t.size→vs0.toList.take row.length=row →
     (∀ k,F k→w'.heap[k]? = w.heap[k]?)∧Aa w F m H fz w' (fun k=>F k∨(k=b∨(k=w.heap.size∧k<w'.heap.size))) m H (AS [id] fz):=by
    intro w' vs0 h1 h2 h3 h4 h5 h6 h7 h8
    have hcell:∀ k,F k→w'.heap[k]? = w.heap[k]? := fun k ha=>h5 _ (hi.lt _ ha) (by rintro h;exact hi.off id b cap hid hm (h▸ha))
    refine⟨hcell,TT hi ho hun h1 h2 h3 h4 _ (hG w' h4) (fun b' c' h=>by rw[hm]at h;cases h;exact .inl rfl) (fun k hk hne=>h5 k hk (by rintro rfl;exact hne cap hm)) ?_⟩
    rw[hm]
    exact⟨hpos,vs0,row,h6,e2,e3,h7,A2 (fun x _ cs hx=>hx.mono hcell (fun _ h=>.inl h) t) e5,h8⟩
   have hrr:=F8 e5 hrows;have hlen:(row++news).length=(xs.length+ys.length)*t.size:=by rw[Abl,hrl,hl,Ab1]
   have fin:∀ (w':World) (g cap':Nat) (vs':Array Value),(∀ k,F k→w'.heap[k]? = w.heap[k]?)→(g=b∨(g=w.heap.size∧g<w'.heap.size))→w'.heap[g]? = some (.cells vs' e (0,0))→xs.length+ys.length≤cap'→vs'.toList.take (row++news).length=row++news →
     Rep w' (fun k=>F k∨(k=b∨(k=w.heap.size∧k<w'.heap.size))) m H (.data (.slice t) (xs++ys)) (.slice (some ⟨g,0,none⟩) (xs.length+ys.length) cap'):=by
    intro w' g cap' vs' hcell hg hgv hle htk
    exact AT9 hgv htk (A2 (fun x _ cs hx=>hx.mono hcell (fun _ h=>.inl h) t) hrr) (by simpa using hle) (.inr hg) (by simp)
   cases A with
    |none=>
     have hy:ys=[]:=by
      cases ys with
       |nil=>rfl
       |cons a b=>exact absurd (hA (by simp)) (by simp)
     subst hy;obtain⟨hc,hgo⟩:=main w vs rfl rfl rfl (Abd _) (fun _ _ _=>rfl) e1 e4 e6;have hn0:news=[]:=Abh (by rw[hl];simp);subst hn0;exact⟨_,w,_,FH hu hi0 _ e2 none c,hgo,fin w b cap vs hc (.inl rfl) e1 (by simpa using e2) (by simpa using e6)⟩
    |some ad=>
     have hone:∀ u∈news,u.oneCell'=true:=fun u hu=>K1 (fun x cs (h:Dat w F t x cs)=>Dat.Fb t h) hrows u hu;by_cases hroom:xs.length+ys.length≤cap;have hnl:news.length=ys.length*i.size:=by rw[hl,hsz]
     have hsum:xs.length*i.size+news.length≤vs.size:=by rw[hnl,e4,hsz,← Ab1];exact Ab0 _ hroom
     have hr:=run_append_room (P:=P) w T ty e i hu hi0 b xs.length cap vs e1 ad ys.length c news hnl (hnews ad rfl) hone hroom hsum;have hrow:vs.toList.take (xs.length*i.size)=row:=by rw[hsz,← hrl];exact e6
     rw[hrow]at hr;obtain⟨hc,hgo⟩:=main (w.setRow b (row++news++vs.toList.drop (xs.length*i.size+news.length)).toArray) (row++news++vs.toList.drop (xs.length*i.size+news.length)).toArray rfl rfl rfl (by simp) (fun k _ hk=>setRow_other w b k _ hk) (setRow_heap w b vs (row++news++vs.toList.drop (xs.length*i.size+news.length)).toArray e _ e1) (by simp only[Ab7,Abl,Ab2,Abe];rw[hrl,e4];rw[hsz]at hsum ⊢;rw[e4]at hsum;omega) (by rw[List.append_assoc];exact AdN)
     exact⟨_,_,_,hr,hgo,fin _ b cap _ hc (.inl rfl) (setRow_heap w b vs _ e _ e1) hroom (by exact AdN)⟩;have hbytes:(xs.length+ys.length)*i.bytes≤140737488355328:=AcX (AdA hfit hby) (by omega);have holds:∀ j u,row[j]? = some u→w.cell? ((⟨b,0,none⟩:Addr).add j)=some u:=fun j u hj=>by
      rw[Addr.add_lit,Ab5];have hj':vs.toList[j]? = some u:=by rw[← e6,Abx]at hj;split at hj;exact hj;cases hj
      rw[AcG]at hj';simp[World.cell?,e1,hj']
     have hr:=run_append_grow (P:=P) w T ty e i z hu hi0 hz ⟨b,0,none⟩ xs.length cap row (by rw[hrl,hsz]) holds ad ys.length c news (by rw[hl,hsz]) (hnews ad rfl) (by omega) (by omega) (growslice_fits (by omega) hbytes);obtain⟨hc,hgo⟩:=main (w.drew.alloc (.cells (row.toArray++news.toArray++Builtin.zeroCells z.cells (grownCap w (xs.length+ys.length) cap e-(xs.length+ys.length))) e)) vs rfl rfl rfl (by simp) (fun k hk _=>heap_alloc_old w.drew _ k hk) ((heap_alloc_old w.drew _ b hblt).trans e1) e4 e6;have hge:=grownCap_ge w (xs.length+ys.length) cap e;exact⟨_,_,_,hr,hgo,fin _ w.heap.size _ _ hc (.inr ⟨rfl,Am (heap_alloc_new w.drew _)⟩) (heap_alloc_new w.drew _) hge (by rw[Acp,Acp];exact AdN)⟩
end
end Go.Pev
end
section
namespace Go.Pev
open Go.RowKit
section
variable {P:Program}
theorem AZP{w:World}{F:Nat→Prop}{m:Mp}{H:List Ob}{fz:List Bool}(hi:HI w F m H fz){id:Nat}{T:TypeId}{tgt:Nat}{is:List Int}(ho:H[id]? = some (.prs T tgt is)){v:Value}(hv:Rep w F m H (.own id) v):
  ∃ A c,v = .slice A is.length c∧(is≠[]→A.isSome=true)∧∃ us,AP w F m H (EV tgt is) us∧(∀ u∈us,u.oneCell'=true)∧∀ ad,A=some ad→∀ j u,us[j]? = some u→w.cell? (ad.add j)=some u:=by
 have hob:=hi.obj id _ ho;unfold Rep at hv;rw[ho]at hv;cases hm:m id with
  |none=>rw[hm]at hv hob;obtain⟨a,rfl⟩:=hv;have hob:is=[]:=hob;subst hob;exact⟨a,0,rfl,fun h=>absurd rfl h,[],by show AP w F m H [] [];unfold AP;rfl,(by simp),fun _ _ j u h=>by simp at h⟩
  |some p=>obtain⟨b,cap⟩:=p;rw[hm]at hv hob;simp only[At]at hv;obtain⟨vs,us,e1,e2,e3,e4,e5,e6,e7⟩:=hob;refine⟨some ⟨b,0,none⟩,cap,hv,fun _=>rfl,us,e5,e6,fun ad h j u hu => ?_⟩;cases h;rw[Bp,Ck e1];have:=CQ e7 hu;rw[← this];congr 1;omega
theorem HW{w:World}{F:Nat→Prop}{m:Mp}{H:List Ob}{fz:List Bool}(hi:HI w F m H fz){slot:Nat}(hf:Ai H fz slot=true){T e ty:TypeId}{i:TypeInfo}{z:Value}(hu:P.underlying T=some (.slice e))
  (hi0:P.info? e=some i) (hz:i.zero=some z) (hzs:z.cells.size=1) (hsz:i.size=1) (hby:i.bytes≤1024) {tgt:Nat} {ys:List Int} (hfit:ys.length≤4294967296) (a:Option Addr)
  {A:Option Addr} {c:Nat} {news:List Value} (hA:ys≠[]→A.isSome=true) (hr:AP w F m H (EV tgt ys) news) (hone:∀ u∈news,u.oneCell'=true) (hnews:∀ ad,A=some ad→∀ j u,news[j]? = some u→w.cell? (ad.add j)=some u) :
  ∃ v w' m',(Builtin.append_ #[T,T] ty #[.slice a 0 0,.slice A ys.length c]).run P w = .ok v w'∧Aa w F m H fz w' F m' (H.set slot (.prs e tgt ys)) fz∧Rep w' F m' (H.set slot (.prs e tgt ys)) (.own slot) v:=by
 have hl:news.length=ys.length:=by rw[Ae hr,PU]
 obtain⟨v,w',hrun,h1,h2,h3,h4,h5,h6⟩:=Gs (P:=P) (w:=w) (ty:=ty) hu hi0 hz (by rw[hzs,hsz]) a (A:=A) (m:=ys.length) (c:=c) (news:=news) (by rw[hl,hsz];omega) (fun h=>hA (by rintro rfl;simp at h)) hnews hfit hby;rcases h6 with⟨h0,rfl⟩|⟨cap',vs,rfl,q1,q2,q3,q4,q5⟩
 have hy:ys=[]:=Abh h0;subst hy;have hgw:=Aa.grow hi h1 h2 h3 h4 h5;obtain⟨m',hg,hrep⟩:=Rr hgw.2 hf e tgt a;exact⟨_,w',m',hrun,hgw.trans hg,hrep⟩;obtain⟨m',hg,hrep⟩:=Lh hi hf q1 h1 h2 h3 h4 h5 q2 q3 (by rw[q4,hsz];omega) hr hone (by rw[hsz,AdI]at q5;rw[hl];exact q5);exact⟨_,w',m',hrun,hg,hrep⟩
theorem OG{w:World}{F:Nat→Prop}{m:Mp}{H:List Ob}{fz:List Bool}(hi:HI w F m H fz){slot:Nat}(hf:Ai H fz slot=true){T e ty:TypeId}{i:TypeInfo}{z:Value}(hu:P.underlying T=some (.slice e))
  (hi0:P.info? e=some i) (hz:i.zero=some z) (hzs:z.cells.size=1) (hsz:i.size=1) (hby:i.bytes≤1024) {tgt id:Nat} {xs:List Int} (ho:H[id]? = some (.prs e tgt xs))
  {b cap:Nat} (hm:m id=some (b,cap)) {ys:List Int} (hfit:xs.length+ys.length≤4294967296)
  {A:Option Addr} {c:Nat} {news:List Value} (hA:ys≠[]→A.isSome=true) (hr:AP w F m H (EV tgt ys) news) (hone:∀ u∈news,u.oneCell'=true) (hnews:∀ ad,A=some ad→∀ j u,news[j]? = some u→w.cell? (ad.add j)=some u) :
  ∃ v w' m',(Builtin.append_ #[T,T] ty #[.slice (some ⟨b,0,none⟩) xs.length cap,.slice A ys.length c]).run P w = .ok v w' ∧
   Aa w F m H fz w' F m' ((H.set id .dead).set slot (.prs e tgt (xs++ys))) fz∧Rep w' F m' ((H.set id .dead).set slot (.prs e tgt (xs++ys))) (.own slot) v:=by
 have hl:news.length=ys.length:=by rw[Ae hr,PU]
 have hob:=hi.obj id _ ho;rw[hm]at hob;obtain⟨vs,us,e1,e2,e3,e4,e5,e6,e7⟩:=hob;have hul:us.length=xs.length:=by rw[Ae e5,PU]
 have hold:vs.toList.take (xs.length*i.size)=us:=by rw[hsz,AdI,← hul];exact e7
 obtain⟨v,w',hrun,hgr⟩:=Kl (P:=P) (w:=w) (ty:=ty) hu hi0 hz (by rw[hzs,hsz]) (by omega) e1 (n:=xs.length) e2 e3 (by rw[e4,hsz];omega) (A:=A) (m:=ys.length) (c:=c) (news:=news) (by rw[hl,hsz];omega) (fun h=>hA (by rintro rfl;simp at h)) hnews
  hone hfit hby
 rw[hold]at hgr;have hlen:(xs++ys).length=xs.length+ys.length:=Abl ..;have hr0:AP w F m H (EV tgt (xs++ys)) (us++news):=by rw[ARL];exact E8 e5 hr
 have hone0:∀ u∈us++news,u.oneCell'=true:=fun u hu=>by rcases Abt.1 hu with h|h;exact e6 u h;exact hone u h
 have hlts:=AY (A3 hf).1;have hgs:((H.set id .dead).set slot (.prs e tgt (xs++ys)))[slot]? = some (.prs e tgt (xs++ys)):=Ak (by simpa using hlts);have hnl:(us++news).length=xs.length+ys.length:=by rw[Abl,hul,hl]
 have main:∀ (g cap':Nat) (vs':Array Value),(w.heap.size≤g∨g=b)→w'.heap[g]? = some (.cells vs' e (0,0))→xs.length+ys.length≤cap'→cap'≤maxLen→vs'.size=cap'→vs'.toList.take (xs.length+ys.length)=us++news →
   ∃ m',Aa w F m H fz w' F m' ((H.set id .dead).set slot (.prs e tgt (xs++ys))) fz∧Rep w' F m' ((H.set id .dead).set slot (.prs e tgt (xs++ys))) (.own slot) (.slice (some ⟨g,0,none⟩) (xs.length+ys.length) cap'):=by
  intro g cap' vs' hg q1 q2 q3 q4 q5
  have:=Aa.move (w':=w') hi (S7 ho) hm hf (ob:=.prs e tgt (xs++ys)) trivial (b':=g) (c':=cap') hg.symm hgr.os hgr.tape hgr.output hgr.size (fun k hk hne=>hgr.keep k hk (fun b' h=>by cases h;exact hne))
   (fun hmono=>⟨vs',us++news,q1,by rw[hlen];exact q2,q3,q4,ACH hmono hr0,hone0,by rw[hnl];exact q5⟩)
  refine⟨_,this,?_⟩
  unfold Rep
  rw[hgs,Af,← hlen]
  rfl
 rcases hgr.res with⟨h0,rfl,rfl⟩|⟨g,cap',vs',rfl,q1,q2,q3,q4,q5,q6⟩
 have hy:ys=[]:=Abh h0;subst hy;have hn0:news=[]:=Abh (by rw[hl];rfl);subst hn0;obtain⟨m',hg,hrep⟩:=main b cap vs (.inr rfl) e1 (by simpa using e2) e3 e4 (by rw[AcE,AcF,Acj,← hul];exact e7)
 exact⟨_,_,m',hrun,hg,by simpa using hrep⟩;obtain⟨m',hg,hrep⟩:=main g cap' vs' (by rcases q6 with h|h;exact .inl h;cases h;exact .inr rfl) q1 q2 q3 (by rw[q4,hsz];omega) (by rw[hsz,AdI]at q5;exact q5);exact⟨_,_,m',hrun,hg,hrep⟩
end
end Go.Pev
end
section
namespace Go.Pev
open Go.RowKit
section
variable {P:Program}
theorem AHR{w:World}{F:Nat→Prop}{m:Mp}{H:List Ob}{fz:List Bool}(hi:HI w F m H fz){T e ty:TypeId}{t:Ty}{i:TypeInfo}{z:Value}(hu:P.underlying T=some (.slice e))
  (hi0:P.info? e=some i) (hz:i.zero=some z) (hzs:z.cells.size=i.size) (hsz:i.size=t.size) (hpos:0<t.size) (hby:i.bytes≤1024) {id k ver:Nat} {T0:RK} {xs:List (List t.den)} (ho:H[id]? = some (.rows T0 e t xs ver none)) (hun:fz.getD id false=false)
  {v:Value} (hv:Rep w F m H (.rowp id k ver) v) {ys:List t.den} (hfit:(AI xs k []).length+ys.length≤4294967296)
  {A:Option Addr} {c:Nat} {news:List Value} (hA:ys≠[]→A.isSome=true) (hrows:rows (Dat w F t) ys news) (hnews:∀ ad,A=some ad→∀ j u,news[j]? = some u→w.cell? (ad.add j)=some u) :
  ∃ v' w' m',(Builtin.append_ #[T,T] ty #[v,.slice A ys.length c]).run P w = .ok v' w'∧Aa w F m H fz w' F m' (H.set id (.rows T0 e t (T0.put xs k (BE (AI xs k []) ys)) (ver+1) (some k))) fz ∧
   Rep w' F m' (H.set id (.rows T0 e t (T0.put xs k (BE (AI xs k []) ys)) (ver+1) (some k))) (.rowp id k (ver+1)) v':=by
 have hk:=fun(x:t.den) cs (h:Dat w F t x cs)=>Dat.length t h
 have hl:=Ar hk hrows
 unfold Rep at hv
 rw[ho]at hv
 obtain⟨_,_,h7⟩:=hv
 obtain⟨zs,l0,hzz,hnx,hrep,hob,hl0,hle⟩:∃ (zs:List t.den) (l0:Option (Nat×Nat)),AI xs k []=zs∧(xs[k]? = some zs∨(T0.Gf=false∧k=xs.length))∧At (some (.arr 0 t zs)) l0 v∧ObI w F m H (.arr e t zs) l0 ∧
   (∀ b c,l0=some (b,c)→owned H fz (.r id k)∧m (.r id k)=some (b,c))∧k≤xs.length:=by
  rcases h7 rfl with⟨zs,h1,h2⟩|⟨h0,h1,h2⟩
  ·exact⟨zs,m (.r id k),by unfold AI;rw[Abi,h1];rfl,.inl h1,h2,(hi.row id T0 e t xs ver none ho k zs h1).1,fun b c h=>⟨HG ho hun (CD h1),h⟩,Nat.le_of_lt (CD h1)⟩
  ·refine⟨[],none,?_,.inr ⟨h0,h1⟩,⟨_,h2⟩,⟨hpos,rfl⟩,(fun b c h=>by cases h),Ac1 h1⟩
   unfold AI
   rw[Abi,Abo (by rw[h1];exact Abd _)];rfl
 rw[hzz]at hfit ⊢
 have hput:∀ y:List t.den,(T0.put xs k y)[k]? = some y∧(∀ k',k'≠k→(T0.put xs k y)[k']? = xs[k']?)∧(T0.Gf=true→xs.length=(T0.put xs k y).length)∧(xs.length=(T0.put xs k y).length∨(T0.Gf=false∧k=xs.length∧(T0.put xs k y).length=xs.length+1)):=by
  intro y
  have hlt:k<xs.length→((xs.set k y)[k]? = some y∧(∀ k',k'≠k→(xs.set k y)[k']? = xs[k']?)∧(T0.Gf=true→xs.length=(xs.set k y).length)∧(xs.length=(xs.set k y).length∨(T0.Gf=false∧k=xs.length∧(xs.set k y).length=xs.length+1))):=fun h=>
   ⟨Ace h,fun k' hk'=>Acm (Ab9 hk'),fun _=>List.length_set.symm,.inl List.length_set.symm⟩
  cases T0 with
  |arr T=>exact hlt (by rcases hnx with h|⟨h,_⟩;exact CD h;cases h)
  |map j ks=>
   simp only[RK.put,QD]
   split
   ·rename_i h;exact hlt h
   ·rename_i h
    have hk:k=xs.length:=Nat.le_antisymm hle (Nat.le_of_not_lt h)
    refine⟨by rw[hk];simp,fun k' hk' => ?_,(fun h=>by cases h),.inr ⟨rfl,hk,by simp⟩⟩
    rcases Abv k' xs.length with h'|h'
    ·rw[Abq h']
    ·rw[Abo h',Abo (by rw[Abl,List.length_singleton];omega)]
 have fin:∀ (w':World) (l:Option (Nat×Nat)) (v':Value),(∀ b c,l=some (b,c)→(∃ c0,l0=some (b,c0))∨w.heap.size≤b)→w'.os=w.os→w'.tape=w.tape→w'.output=w.output→w.heap.size≤w'.heap.size →
   (∀ b,b<w.heap.size→(∀ c,l0≠some (b,c))→w'.heap[b]? = w.heap[b]?)→((∀ {d:t.den} {cs:List Value},Dat w F t d cs→Dat w' F t d cs)→ObI w' F m H (.arr e t (zs++ys)) l)→At (some (.arr e t (zs++ys))) l v' →
   ∃ m',Aa w F m H fz w' F m' (H.set id (.rows T0 e t (T0.put xs k (BE zs ys)) (ver+1) (some k))) fz∧Rep w' F m' (H.set id (.rows T0 e t (T0.put xs k (BE zs ys)) (ver+1) (some k))) (.rowp id k (ver+1)) v':=by
  intro w' l v' hl' h1 h2 h3 h4 h5 h6 h8
  obtain⟨p1,p2,p3,p4⟩:=hput (BE zs ys)
  have hg:=Aa.Aa7 hi ho hun l p1 p2 p3 (fun b cap _ h=>by
    rcases p4 with p4|⟨p4,p5,p6⟩
    ·rw[← p4];exact h.out (by rw[p4];exact CD p1)
    ·cases T0 with
     |arr T=>cases p4
     |map j ks=>
      obtain⟨ms,clock,e1,e2,e3,e4,_⟩:=h
      have e4:=e4.resolve_right fun h=>by cases h.1
      exact⟨ms,clock,e1,e2,e3,.inr ⟨by rw[p5,e4],by rw[p6,e4]⟩,fun k' h=>by cases h;exact CD p1⟩)
   (fun ha hx=>Abh (by rw[← p3 ha,hx];rfl))
   (fun b c h=>(hl' b c h).imp (fun ⟨c0,h⟩=>⟨c0,hl0 b c0 h⟩) (fun h=>h)) h1 h2 h3 h4 (fun b hb hn=>h5 b hb fun c hc=>(hn c (hl0 b c hc).1 (hl0 b c hc).2)) h6
  refine⟨_,hg,?_⟩
  unfold Rep
  rw[Ak (AY ho),Fo]
  exact⟨h8.one,Abd _,fun _=>.inl ⟨zs++ys,p1,h8⟩⟩
 cases hm:l0 with
 |none=>
  rw[hm]at hob hrep
  obtain⟨a,rfl⟩:=hrep
  obtain⟨_,hzn⟩:=hob
  simp only at hzn
  subst hzn
  obtain⟨v',w',hrun,h1,h2,h3,h4,h5,h6⟩:=Gs (P:=P) (w:=w) (ty:=ty) hu hi0 hz hzs a (A:=A) (m:=ys.length) (c:=c) (news:=news) (by rw[hl,hsz]) (fun h=>hA (by rintro rfl;simp at h)) hnews (by simpa using hfit) hby
  rcases h6 with⟨h0,rfl⟩|⟨cap',vs,rfl,q1,q2,q3,q4,q5⟩
  ·have hy:ys=[]:=Abh h0
   subst hy
   obtain⟨m',hg,hr⟩:=fin w' none _ (fun b c h=>by cases h) h1 h2 h3 h4 (fun b hb _=>h5 b hb) (fun _=>⟨hpos,rfl⟩) ⟨a,rfl⟩
   exact⟨_,w',m',hrun,hg,hr⟩
  ·obtain⟨m',hg,hr⟩:=fin w' (some (w.heap.size,cap')) _ (fun b c h=>by cases h;exact .inr (Abd _)) h1 h2 h3 h4 (fun b hb _=>h5 b hb)
    (fun hd=>⟨hpos,vs,news,q1,q2,q3,by rw[q4,hsz],A2 (fun x _ cs hx=>hd hx) hrows,by rw[hl,← hsz];exact q5⟩) rfl
   exact⟨_,w',m',hrun,hg,hr⟩
 |some p=>
  obtain⟨b,cap⟩:=p
  rw[hm]at hob hrep
  obtain⟨_,vs,row,e1,e2,e3,e4,e5,e6⟩:=hob
  simp only[At]at hrep
  subst hrep
  have hrl:=Ar hk e5
  obtain⟨v',w',hrun,hgr⟩:=Kl (P:=P) (w:=w) (ty:=ty) hu hi0 hz hzs (by omega) e1 (n:=zs.length) e2 e3 (by rw[e4,hsz]) (A:=A) (m:=ys.length) (c:=c) (news:=news) (by rw[hl,hsz]) (fun h=>hA (by rintro rfl;simp at h)) hnews
   (fun u hu=>K1 (fun x cs (h:Dat w F t x cs)=>Dat.Fb t h) hrows u hu) hfit hby
  have hold:vs.toList.take (zs.length*i.size)=row:=by rw[hsz,← hrl];exact e6
  rw[hold]at hgr
  have hr0:=F8 e5 hrows
  have hlen:(row++news).length=(zs.length+ys.length)*t.size:=by rw[Abl,hrl,hl,Ab1]
  have hkeep:∀ b',b'<w.heap.size→(∀ c,l0≠some (b',c))→w'.heap[b']? = w.heap[b']? := fun b' hb' hn=>hgr.keep b' hb' fun b0 h=>by
   cases h
   rintro rfl
   exact hn cap hm
  rcases hgr.res with⟨h0,rfl,rfl⟩|⟨g,cap',vs',rfl,q1,q2,q3,q4,q5,q6⟩
  ·have hy:ys=[]:=Abh h0
   subst hy
   obtain⟨m',hg,hr⟩:=fin w' (some (b,cap)) _ (fun b c h=>by cases h;exact .inl ⟨_,hm⟩) hgr.os hgr.tape hgr.output hgr.size hkeep
    (fun _=>⟨hpos,vs,row,e1,by rw[AcE];exact e2,e3,e4,by rw[AcE];exact e5,e6⟩) (by rw[AcE];rfl)
   exact⟨_,w',m',hrun,hg,hr⟩
  ·obtain⟨m',hg,hr⟩:=fin w' (some (g,cap')) (.slice (some ⟨g,0,none⟩) (zs.length+ys.length) cap') (fun b' c h=>by
     cases h
     rcases q6 with h|h
     ·exact .inr h
     ·cases h;exact .inl ⟨_,hm⟩) hgr.os hgr.tape hgr.output hgr.size hkeep
    (fun hd=>⟨hpos,vs',row++news,q1,by rw[Abl];exact q2,q3,by rw[q4,hsz],A2 (fun x _ cs hx=>hd hx) hr0,by rw[hlen,← hsz];exact q5⟩) (by simp only[At,Abl])
   exact⟨_,w',m',hrun,hg,hr⟩
end
end Go.Pev
end
section
namespace Go.Pev
open Go.RowKit
section
variable {P:Program} {E:Env}
theorem XX(args:Array Operand)(ts:Array TypeId):Claim P E (.call { callee:=.builtin .append,args:=args,argTypes:=ts }):=by
 intro R ty ρ H fz slot k r h;simp only[evalOp,CX]at h;split at h;rename_i s x T T' ha hts;obtain rfl:=AYs ha;obtain rfl:=AYs hts;split at h;rename_i e t hsl hTT;simp only[Abb]at hTT;subst hTT;split at h;rename_i ys fr zz hys hz hby;obtain⟨hu,hty0,hpos⟩:=Bb hsl;obtain⟨t',cs'⟩:=zz;obtain⟨hty',hcs',i,z,hi0,hz0,hok,hsz,hza⟩:=BR hz;subst hcs';have:t'=t:=by rw[hty0]at hty';exact(Acf hty').symm
 subst this;have hzs:z.cells.size=i.size:=by have hzd:=BJ (w:=default) (F:=fun _=>False) t' _ hok;rw[hsz,← Abe];exact Dat.length t' hzd
 have hby':i.bytes≤1024:=by simpa [hi0]using hby
 split at h;rename_i et hs;split at h;rename_i hfit;split at h;rename_i hf;refine⟨_,_,h,fun R' k'=>by simp only[evalOp,CX,hsl,Aby,hys,hz,hby,hs,hfit,hf],Aq fun w F m ρc o hop hty hi hr => ?_⟩;have hrs:=hr s;rw[hs]at hrs;unfold Rep at hrs;obtain⟨A,c,q1,q2,q3,news,q4,q5⟩:=DC hi hys (hr x);obtain⟨v,w',m',hrun,hg,hrep⟩:=EJ (P:=P) (ty:=o.type) hi hf hu hi0 hz0 hzs hsz hpos hby' (by have:(ys.length:Int)≤4294967296:=(ED _).1 hfit;omega) none (c:=c) q3 q4 q5;exact⟨v,w',F,m',Bi hop hrs q1 hrun,hg,hrep⟩;cases h;cases h;rename_i t2 xs hs;split at h;rename_i xs' hc hne;split at h;rename_i hfit;split at h;rename_i hf;refine⟨_,_,h,fun R' k'=>by simp only[evalOp,CX,hsl,Aby,hys,hz,hby,hs,hc,hne,hfit,hf],Aq fun w F m ρc o hop hty hi hr => ?_⟩;obtain⟨et,hx⟩:=B3 hc;subst et;simp only at hx;subst hx;have hrs:=hr s;rw[hs]at hrs;obtain⟨A,c,q1,q2,q3,news,q4,q5⟩:=DC hi hys (hr x);have hfit':xs.length+ys.length≤4294967296:=by have:((xs.length:Int)+(ys.length:Int))≤4294967296:=(ED _).1 hfit;omega
 obtain⟨v,w',m',hrun,hg,hrep⟩:=ACB (P:=P) (ty:=o.type) hi hf hu hi0 hz0 hzs hsz hpos hby' hfit' (by rintro rfl;simp at hne) hrs (c:=c) q3 q4 q5;exact⟨v,w',F,m',Bi hop rfl q1 hrun,hg,hrep⟩;cases h;cases h;cases h;rename_i id hs;split at h;rename_i e' t2 xs ho;split at h;rename_i hue;split at h;rename_i xs' hc;split at h;rename_i hfit;split at h;rename_i hkp;refine⟨_,_,h,fun R' k'=>by simp only[evalOp,CX,hsl,Aby,hys,hz,hby,hs,ho,hue,hc,hfit,hkp],Aq fun w F m ρc o hop hty hi hr => ?_⟩;simp only[Aba,Abb]at hue;obtain⟨hun,rfl⟩:=hue;obtain⟨et,hx⟩:=B3 hc;subst et;simp only at hx;subst hx;have hrs:=hr s;rw[hs]at hrs;obtain⟨A,c,q1,q2,q3,news,q4,q5⟩:=DC hi hys (hr x);have hfit':xs.length+ys.length≤4294967296:=by have:((xs.length:Int)+(ys.length:Int))≤4294967296:=(ED _).1 hfit;omega
 obtain⟨v,w',F',hrun,hg,hrep⟩:=ACA (P:=P) (ty:=o.type) hi hu hi0 hz0 hzs hsz hpos hby' ho hun hfit' (c:=c) q3 q4 q5 hrs;exact⟨v,w',F',m,Bi hop rfl q1 hrun,hg,hrep⟩;rename_i hkp;split at h;rename_i hf;refine⟨_,_,h,fun R' k'=>by simp only[evalOp,CX,hsl,Aby,hys,hz,hby,hs,ho,hue,hc,hfit,hkp,hf],Aq fun w F m ρc o hop hty hi hr => ?_⟩;simp only[Aba,Abb]at hue;obtain⟨hun,rfl⟩:=hue;obtain⟨et,hx⟩:=B3 hc;subst et;simp only at hx;subst hx;have hrs:=hr s;rw[hs]at hrs;unfold Rep at hrs;rw[ho]at hrs;obtain⟨A,c,q1,q2,q3,news,q4,q5⟩:=DC hi hys (hr x);have hfit':xs.length+ys.length≤4294967296:=by have:((xs.length:Int)+(ys.length:Int))≤4294967296:=(ED _).1 hfit;omega
 have hsn:=W3 hf ho;cases hm:m id with
  |none=>obtain⟨_,hob⟩:=hi.obj id _ ho;rw[hm]at hrs hob;obtain⟨a,e1⟩:=hrs;simp only at hob;subst hob;have hkill:=Aa.kill hi (Bx ho hun);obtain⟨v,w',m',hrun,hg,hrep⟩:=EJ (P:=P) (ty:=o.type) hkill.2 (Hz hf hsn) hu hi0 hz0 hzs hsz hpos hby' (by simpa using hfit') a (c:=c) q3 q4 q5;exact⟨v,w',F,m',Bi hop e1 q1 hrun,hkill.trans hg,hrep⟩
  |some p=>obtain⟨b,cap⟩:=p;rw[hm]at hrs;simp only[At]at hrs;obtain⟨v,w',m',hrun,hg,hrep⟩:=NZ (P:=P) (ty:=o.type) hi hf hu hi0 hz0 hzs hsz hpos hby' ho hun hm (Abd _) hfit' (c:=c) q3 q4 q5;rw[List.take_length]at hg hrep;exact⟨v,w',F,m',Bi hop hrs q1 hrun,hg,hrep⟩
 cases h;cases h;cases h;cases h;cases h;rename_i id kx ver hs;split at h;rename_i T0 e' t2 xs ver' ho;split at h;rename_i hue;split at h;rename_i xs' hc;split at h;rename_i hfit;refine⟨_,_,h,fun R' k'=>by simp only[evalOp,CX,hsl,Aby,hys,hz,hby,hs,ho,hue,hc,hfit],Aq fun w F m ρc o hop hty hi hr => ?_⟩;simp only[Aba,Abb]at hue;obtain⟨hun,rfl,rfl⟩:=hue;obtain⟨et,hx⟩:=B3 hc;cases et;simp only at hx;subst hx;have hun':fz.getD id false=false:=by unfold AW at hun;simpa using hun
 have hrs:=hr s;rw[hs]at hrs;obtain⟨A,c,q1,q2,q3,news,q4,q5⟩:=DC hi hys (hr x);have hfit':(AI xs kx []).length+ys.length≤4294967296:=by have:(((AI xs kx []).length:Int)+(ys.length:Int))≤4294967296:=(ED _).1 hfit;omega
 obtain⟨v,w',m',hrun,hg,hrep⟩:=AHR (P:=P) (ty:=o.type) hi hu hi0 hz0 hzs hsz hpos hby' ho hun' hrs hfit' (c:=c) q3 q4 q5;exact⟨v,w',F,m',Bi hop rfl q1 hrun,hg,hrep⟩;cases h;cases h;cases h;cases h;rename_i id n hs;split at h;rename_i e' t2 xs ho;split at h;rename_i hue;split at h;rename_i xs' hc;split at h;rename_i hfit;split at h;rename_i hf;refine⟨_,_,h,fun R' k'=>by simp only[evalOp,CX,hsl,Aby,hys,hz,hby,hs,ho,hue,hc,hfit,hf],Aq fun w F m ρc o hop hty hi hr => ?_⟩;simp only[Aba,Abb]at hue;obtain⟨hun,rfl⟩:=hue;obtain⟨et,hx⟩:=B3 hc;subst et;simp only at hx;subst hx;have hrs:=hr s;rw[hs]at hrs;unfold Rep at hrs;rw[ho]at hrs;obtain⟨hle,hrs⟩:=hrs;obtain⟨A,c,q1,q2,q3,news,q4,q5⟩:=DC hi hys (hr x);have hfit':n+ys.length≤4294967296:=by have:((n:Int)+(ys.length:Int))≤4294967296:=(ED _).1 hfit;omega
 have hsn:=W3 hf ho;obtain⟨_,hob⟩:=hi.obj id _ ho
 have zero:∀ a,n=0→ρc s = .slice a 0 0→∃ u w' F' m',(execOp ρc o).run P w = .ok (.value u) w'∧Aa w F m H fz w' F' m' ((H.set id .dead).set slot (.arr e _ (BE (CL n xs) ys))) fz ∧
   Rep w' F' m' ((H.set id .dead).set slot (.arr e _ (BE (CL n xs) ys))) (.own slot) u:=by
  intro a h0 e1
  subst h0
  have hkill:=Aa.kill hi (Bx ho hun)
  obtain⟨v,w',m',hrun,hg,hrep⟩:=EJ (P:=P) (ty:=o.type) hkill.2 (Hz hf hsn) hu hi0 hz0 hzs hsz hpos hby' (by simpa using hfit') a (c:=c) q3 q4 q5
  exact⟨v,w',F,m',Bi hop e1 q1 hrun,hkill.trans hg,hrep⟩
 cases hm:m id with
  |none=>
   rw[hm]at hrs hob;obtain⟨a,e1⟩:=hrs;simp only at hob;subst hob;have hn:n=0:=by simpa using hle
   exact zero a hn (by rw[e1,hn])
  |some p=>obtain⟨b,cap⟩:=p;rw[hm]at hrs hob;obtain⟨a,e1,e2⟩:=hrs;obtain⟨vs,row,o1,o2,_⟩:=hob;rcases AcK cap with hcap|hcap;exact zero a (by omega) (by rw[e1,hcap,show n=0 from by omega]);have ha:=e2 hcap;rw[AdL]at ha;subst ha;obtain⟨v,w',m',hrun,hg,hrep⟩:=NZ (P:=P) (ty:=o.type) hi hf hu hi0 hz0 hzs hsz hpos hby' ho hun hm (n:=n) (by omega) hfit' (c:=c) q3 q4 q5;exact⟨v,w',F,m',Bi hop e1 q1 hrun,hg,hrep⟩
 cases h;cases h;cases h;cases h;cases h;cases h;cases h;rename_i e t hsl hTT;split at h;rename_i et j n zz kk hs hx hz hk hby;split at h;rename_i hfit;split at h;rename_i hf;refine⟨_,_,h,fun R' k'=>by simp only[evalOp,CX,hsl,hTT,hs,hx,hz,hk,hby,hfit,hf],Aq fun w F m ρc o hop hty hi hr => ?_⟩;obtain⟨hu,hty0,hpos⟩:=Bb hsl;obtain⟨t',cs'⟩:=zz;obtain⟨hty',hcs',i,z,hi0,hz0,hok,hsz,hza⟩:=BR hz;subst hcs';have:t'=t:=by rw[hty0]at hty';exact(Acf hty').symm
 subst this;rw[Td]at hfit;obtain⟨n',rfl⟩:=AcB hfit.1;have hrs:=hr s;rw[hs]at hrs;unfold Rep at hrs;have e2:=As (hx▸hr x);have hby':i.bytes≤1024:=by simpa [hi0]using hby
 obtain⟨v,w',m',hrun,hg,hrep⟩:=AB9 (P:=P) (ty:=o.type) hi hf hu hi0 hz0 hok hsz hpos hby' (E1 hk) (kx:=j) (n:=n') (by omega);exact⟨v,w',F,m',XB hop hrs e2 hrun,hg,hrep⟩;cases h;cases h;cases h;rename_i hsl hTT;simp only[Abb]at hTT;subst hTT;split at h;rename_i e ix hce hx;split at h;rename_i e1 tgt ys hox;split at h;rename_i he;simp only[Abb]at he;subst he;obtain⟨hu,ii,z,hi0,hz0,hsz,hzs,hby⟩:=NW hce;split at h;rename_i et hs;split at h;rename_i hfit;split at h;rename_i hf;refine⟨_,_,h,fun R' k'=>by simp only[evalOp,CX,hsl,Aby,hce,hx,hox,hs,hfit,hf],Aq fun w F m ρc o hop hty hi hr => ?_⟩;have hrs:=hr s;rw[hs]at hrs;unfold Rep at hrs;obtain⟨A,c,q1,q2,news,q3,q4,q5⟩:=AZP hi hox (hx▸hr x);obtain⟨v,w',m',hrun,hg,hrep⟩:=HW (P:=P) (ty:=o.type) hi hf hu hi0 hz0 hzs hsz hby (by have:(ys.length:Int)≤4294967296:=(ED _).1 hfit;omega) none (c:=c) q2 q3 q4 q5;exact⟨v,w',F,m',Bi hop hrs q1 hrun,hg,hrep⟩;cases h;cases h;rename_i id hs;split at h;rename_i e2 tgt2 xs ho;split at h;rename_i hue;split at h;rename_i hfit;split at h;rename_i hf;refine⟨_,_,h,fun R' k'=>by simp only[evalOp,CX,hsl,Aby,hce,hx,hox,hs,ho,hue,hfit,hf],Aq fun w F m ρc o hop hty hi hr => ?_⟩;simp only[Aba,Abb]at hue;obtain⟨rfl,rfl⟩:=hue;have hrs:=hr s;rw[hs]at hrs;unfold Rep at hrs;rw[ho]at hrs;obtain⟨A,c,q1,q2,news,q3,q4,q5⟩:=AZP hi hox (hx▸hr x);have hfit':xs.length+ys.length≤4294967296:=by have:((xs.length:Int)+(ys.length:Int))≤4294967296:=(ED _).1 hfit;omega
 have hsn:=AA4 hf ho;cases hm:m id with
  |none=>have hob:=hi.obj id _ ho;rw[hm]at hrs hob;obtain⟨a,e1⟩:=hrs;have hob:xs=[]:=hob;subst hob;have hkill:=Aa.kill hi (S7 ho);obtain⟨v,w',m',hrun,hg,hrep⟩:=HW (P:=P) (ty:=o.type) hkill.2 (Hz hf hsn) hu hi0 hz0 hzs hsz hby (by simpa using hfit') a (c:=c) q2 (hkill.1.AbU hi q3) q4 q5;exact⟨v,w',F,m',Bi hop e1 q1 hrun,hkill.trans hg,hrep⟩
  |some p=>obtain⟨b,cap⟩:=p;rw[hm]at hrs;simp only[At]at hrs;obtain⟨v,w',m',hrun,hg,hrep⟩:=OG (P:=P) (ty:=o.type) hi hf hu hi0 hz0 hzs hsz hby ho hm hfit' (c:=c) q2 q3 q4 q5;exact⟨v,w',F,m',Bi hop hrs q1 hrun,hg,hrep⟩
 cases h;cases h;cases h;cases h;cases h;cases h;cases h;cases h;cases h;cases h
end
end Go.Pev
end
section
namespace Go.Pev
open Go.RowKit
section
variable {P:Program} {E:Env}
theorem AOe(args:Array Operand)(ts:Array TypeId):Claim P E (.call { callee:=.builtin .cap,args:=args,argTypes:=ts }):=by intro R ty ρ H fz slot k r h;simp only[evalOp,AJj]at h;split at h;rename_i x T ha hts;obtain rfl:=AO5 ha;obtain rfl:=AO5 hts;split at h;rename_i e et hu hx;refine⟨_,_,h,fun R' k'=>by simp only[evalOp,AJj,hu,hx],AL fun w F m ρc o hop hty hi hr=>⟨.int .i64 0,?_,Aj _ _⟩⟩;have hrx:=hr x;rw[hx]at hrx;unfold Rep at hrx;simp[execOp,hop,resolve,invoke,builtin,hrx,Builtin.cap_,run_underlying hu,goInt];cases h;cases h
theorem AOb(args:Array Operand)(ts:Array TypeId):Claim P E (.call { callee:=.builtin .min,args:=args,argTypes:=ts }):=by intro R ty ρ H fz slot k r h;simp only[evalOp,AJh]at h;split at h;rename_i x y ha;obtain rfl:=AYs ha;split at h;rename_i j a j' b hx hy;refine⟨_,_,h,fun R' k'=>by simp only[evalOp,AJh,hx,hy],AL fun w F m ρc o hop hty hi hr=>⟨.int j (EN a b),?_,Aj _ _⟩⟩;have e1:=As (hx▸hr x);have e2:=As (hy▸hr y);simp[execOp,hop,resolve,invoke,builtin,e1,e2,run_min_int2,EN];cases h;cases h
theorem RU{w:World}(ts:Array TypeId)(t:TypeId)(k k':IntKind)(x y:Int):(Builtin.max_ ts t #[.int k x,.int k' y]).run P w = .ok (.int k (if y > x then y else x)) w:=by simp[Builtin.max_,Builtin.max2]
theorem AOc(args:Array Operand)(ts:Array TypeId):Claim P E (.call { callee:=.builtin .max,args:=args,argTypes:=ts }):=by intro R ty ρ H fz slot k r h;simp only[evalOp,AJi]at h;split at h;rename_i x y ha;obtain rfl:=AYs ha;split at h;rename_i j a j' b hx hy;refine⟨_,_,h,fun R' k'=>by simp only[evalOp,AJi,hx,hy],AL fun w F m ρc o hop hty hi hr=>⟨.int j (imax a b),?_,Aj _ _⟩⟩;have e1:=As (hx▸hr x);have e2:=As (hy▸hr y);simp[execOp,hop,resolve,invoke,builtin,e1,e2,RU,imax];cases h;cases h
theorem IW{H:List Ob}{i:Nat}{o:Ob}(h:H[i]? = some o):H.set i o=H:=by apply AdK;intro j;by_cases hij:j=i;subst hij;rw[Ak (AY h),h];rw[AR hij]
theorem QF{α:Type}{off n:Nat}{z:α}{xs:List α}(h:off+n≤xs.length):(Cj off n z xs).length=xs.length:=by simp only[Cj,Abl,Abn,AcA,Ab2];omega
theorem ABW{α:Type}(off:Nat)(z:α)(xs:List α):Cj off 0 z xs=xs:=by simp[Cj]
theorem T3{w:World}{F:Nat→Prop}{m:Mp}{H:List Ob}{fz:List Bool}(hi:HI w F m H fz){id:Nat}{T:TypeId}{t:Ty}{xs:List t.den}(ho:H[id]? = some (.arr T t xs))(hf:AW fz id=true)
  {b cap:Nat} (hm:m id=some (b,cap)) {off n:Nat} (hle:off+n≤xs.length) {z:List Value} (hz:Dat w F t t.zero z) (h1:∀ u∈z,u.oneCell'=true) {zs:Array Value} (hzs:zs.toList=(List.replicate n z).flatten) :
  ∃ w',(storeCells ⟨b,off*t.size,none⟩ zs.toList).run P w = .ok () w'∧Aa w F m H fz w' F m (H.set id (.arr T t (Cj off n t.zero xs))) fz:=by
 have hob:=hi.obj id _ ho;obtain⟨h0,hob⟩:=hob;rw[hm]at hob;obtain⟨vs,row,e1,e2,e3,e4,e7,e8⟩:=hob;have hk:=fun(x:t.den) cs (h:Dat w F t x cs)=>Dat.length t h;have hlen:=Ar hk e7;have hrz:=D3 (w:=w) (F:=F) hz n;have hdl:=Ar hk hrz;rw[AcA,← hzs]at hdl;have hle1:off*t.size+n*t.size≤xs.length*t.size:=by have:=Ab0 t.size hle;rwa [Ab1]at this
 have hle2:xs.length*t.size≤cap*t.size:=Ab0 _ e2;have hvl:vs.toList.length=cap*t.size:=by rw[Abe,e4]
 have hst:=run_storeCells_at P b (off*t.size) T zs.toList 0 vs w e1 (by simp only[Acj,hdl,e4];omega) (by intro u hu;rw[hzs,List.mem_flatten]at hu;obtain⟨l,hl,hul⟩:=hu;rw[Ack hl]at hul;exact h1 u hul)
 simp only[Acj,hdl]at hst;obtain⟨r1,r2,r3,r4,r5⟩:=Ey (w:=w) (b:=b) (cs:=(vs.toList.take (off*t.size)++zs.toList++vs.toList.drop (off*t.size+n*t.size)).toArray);refine⟨_,hst,?_⟩;refine Aa.set hi (Bx ho hf) hm ho ⟨rfl,(QF hle).symm⟩ r1 r2 r3 r4 r5 fun hmono => ?_;refine⟨h0,?_⟩;rw[hm];refine⟨_,row.take (off*t.size)++(zs.toList++row.drop (off*t.size+n*t.size)),setRow_heap w b vs _ T _ e1,by rw[QF hle];exact e2,e3,?_,?_,?_⟩;simp only[Ab7,Abl,Abn,Ab2,hvl,hdl];omega
 have hcell:∀ k,F k→(w.setRow b (vs.toList.take (off*t.size)++zs.toList++vs.toList.drop (off*t.size+n*t.size)).toArray).heap[k]? = w.heap[k]? := fun k ha=>
  Ey.2.2.2.2 k (by rintro rfl;exact hi.off id _ cap (Bx ho hf) hm ha)
 refine A2 (R:=Dat w F t) (fun x _ cs hx=>hx.mono hcell (fun _ h=>h) t) ?_;have:=Fq hk (off+n) e7;rw[Ab1]at this;exact F8 (DI hk off e7) (F8 (by rw[hzs];exact hrz) this)
 ·have hrl:(row.take (off*t.size)++(zs.toList++row.drop (off*t.size+n*t.size))).length=row.length:=by simp only[Abl,Abn,Ab2,hdl];omega
  rw[hrl];show List.take row.length (vs.toList.take (off*t.size)++zs.toList++vs.toList.drop (off*t.size+n*t.size))=_;have h1:row.take (off*t.size)=vs.toList.take (off*t.size):=by rw[← e8,Ac9,Acw (by omega)]
  have h2:row.drop (off*t.size+n*t.size)=(vs.toList.drop (off*t.size+n*t.size)).take (row.length-(off*t.size+n*t.size)):=by
   conv=>lhs;rw[← e8]
   rw[List.drop_take]
  rw[h1,h2,Aci,AcD (by simp only[Abl,Abn,hvl,hdl];omega),List.append_assoc];congr 3;simp only[Abl,Abn,hvl,hdl];omega
theorem GL{w w':World}{ρc:Operand→Value}{o:Oper}{T:TypeId}{x:Operand}{v:Value}(hop:o.op = .call { callee:=.builtin .clear,args:=#[x],argTypes:=#[T] })(e1:ρc x=v)
  (hrun:(Builtin.clear_ #[T] o.type #[v]).run P w = .ok (.tuple #[]) w'):(execOp ρc o).run P w = .ok (.value (.tuple #[])) w':=by simp[execOp,hop,resolve,invoke,builtin,e1,hrun]
theorem F6{w:World}{T e ty:TypeId}(hu:P.underlying T=some (.slice e))(a:Option Addr)(c:Nat):(Builtin.clear_ #[T] ty #[.slice a 0 c]).run P w = .ok (.tuple #[]) w:=by cases a<;>simp[Builtin.clear_,run_underlying hu]
theorem IZ{w w':World}{T e ty:TypeId}(hu:P.underlying T=some (.slice e)){i:TypeInfo}{z:Value}(hi0:P.info? e=some i)(hz:i.zero=some z)(a:Addr){n:Nat}(hn:0<n)(c:Nat)
  (h:(storeCells a (Builtin.zeroCells z.cells n).toList).run P w = .ok () w'):(Builtin.clear_ #[T] ty #[.slice (some a) n c]).run P w = .ok (.tuple #[]) w':=by
 obtain⟨m,rfl⟩:∃ m,n=m+1:=⟨n-1,by omega⟩
 simp[Builtin.clear_,run_underlying hu,A5 hi0 hz,h]
theorem AJt{w:World}{F:Nat→Prop}{t:Ty}{d:t.den}{z:List Value}(h:Dat w F t d z):∀ u∈z,u.oneCell'=true:=fun u hu=>Dat.Fb t h u hu
theorem ABo(args:Array Operand)(ts:Array TypeId):Claim P E (.call { callee:=.builtin .clear,args:=args,argTypes:=ts }):=by
 intro R ty ρ H fz slot k r h;simp only[evalOp,Fh]at h;split at h;rename_i x T ha hts;obtain rfl:=AO5 ha;obtain rfl:=AO5 hts;split at h;rename_i e t hsl;split at h;rename_i zz hz;obtain⟨hu,hty0,hpos⟩:=Bb hsl;obtain⟨t',cs'⟩:=zz;obtain⟨hty',hcs',i,z,hi0,hz0,hok,hsz,hza⟩:=BR hz;subst hcs';have:t'=t:=by rw[hty0]at hty';exact(Acf hty').symm
 subst this;have hcells:∀ k,(Builtin.zeroCells z.cells k).toList=(List.replicate k z.cells.toList).flatten:=CV z.cells;split at h;rename_i et hx;refine⟨_,_,h,fun R' k'=>by simp only[evalOp,Fh,hsl,hz,hx],Aq fun w F m ρc o hop hty hi hr => ?_⟩;have hrx:=hr x;rw[hx]at hrx;unfold Rep at hrx;exact⟨_,w,F,m,GL hop hrx (F6 hu _ _),Aa.refl hi,by unfold Rep;trivial⟩;rename_i id hx;split at h;rename_i e' t2 xs ho;split at h;rename_i hun;refine⟨_,_,h,fun R' k'=>by simp only[evalOp,Fh,hsl,hz,hx,ho,hun],Aq fun w F m ρc o hop hty hi hr => ?_⟩;simp only[Aba,Abb]at hun;obtain⟨hun,ht⟩:=hun;subst ht;have hzd:=BJ (w:=w) (F:=F) t' _ hok;have hrx:=hr x;rw[hx]at hrx;unfold Rep at hrx;rw[ho]at hrx;obtain⟨_,hob⟩:=hi.obj id _ ho
 have none_:xs=[]→∀ a c,ρc x = .slice a 0 c→∃ u w' F' m',(execOp ρc o).run P w = .ok (.value u) w'∧Aa w F m H fz w' F' m' (Bj { objs:=[(id,.arr e' t' (Cj 0 xs.length t'.zero xs))] } H) (Dc { objs:=[(id,.arr e' t' (Cj 0 xs.length t'.zero xs))] } fz) ∧
   Rep w' F' m' (Bj { objs:=[(id,.arr e' t' (Cj 0 xs.length t'.zero xs))] } H) .Bo u:=by
  intro hxs a c e1
  refine⟨_,w,F,m,GL hop e1 (F6 hu _ _),?_,by unfold Rep;trivial⟩
  have:Cj 0 xs.length t'.zero xs=xs:=by rw[hxs];rfl
  rw[this]
  have hs:Bj { objs:=[(id,.arr e' t' xs)] } H=H:=IW ho
  rw[hs]
  exact Aa.refl hi
 cases hm:m id with
  |none=>rw[hm]at hrx hob;obtain⟨a,e1⟩:=hrx;simp only at hob;exact none_ hob a 0 e1
  |some p=>obtain⟨b,cap⟩:=p;rw[hm]at hrx;simp only[At]at hrx;rcases AcK xs.length with hl|hl;exact none_ (Abh hl) (some ⟨b,0,none⟩) cap (by rw[hrx,hl]);obtain⟨w',hst,hg⟩:=T3 (P:=P) hi ho hun hm (off:=0) (n:=xs.length) (by omega) hzd (AJt hzd) (hcells xs.length);rw[AdL]at hst;exact⟨_,w',F,m,GL hop hrx (IZ hu hi0 hz0 _ hl _ hst),hg,by unfold Rep;trivial⟩
 cases h;cases h;rename_i id off n hx;split at h;rename_i e' t2 xs ho;split at h;rename_i hun;refine⟨_,_,h,fun R' k'=>by simp only[evalOp,Fh,hsl,hz,hx,ho,hun],Aq fun w F m ρc o hop hty hi hr => ?_⟩;simp only[Aba,Abb]at hun;obtain⟨hun,ht⟩:=hun;subst ht;have hzd:=BJ (w:=w) (F:=F) t' _ hok;have hrx:=hr x;rw[hx]at hrx;unfold Rep at hrx;rw[ho]at hrx;obtain⟨hle,hrx⟩:=hrx;obtain⟨_,hob⟩:=hi.obj id _ ho
 have none_:n=0→∀ a c,ρc x = .slice a n c→∃ u w' F' m',(execOp ρc o).run P w = .ok (.value u) w'∧Aa w F m H fz w' F' m' (Bj { objs:=[(id,.arr e' t' (Cj off n t'.zero xs))] } H) (Dc { objs:=[(id,.arr e' t' (Cj off n t'.zero xs))] } fz) ∧
   Rep w' F' m' (Bj { objs:=[(id,.arr e' t' (Cj off n t'.zero xs))] } H) .Bo u:=by
  intro hxs a c e1
  subst hxs
  refine⟨_,w,F,m,GL hop e1 (F6 hu _ _),?_,by unfold Rep;trivial⟩
  rw[ABW]
  have hs:Bj { objs:=[(id,.arr e' t' xs)] } H=H:=IW ho
  rw[hs]
  exact Aa.refl hi
 cases hm:m id with
  |none=>rw[hm]at hrx hob;obtain⟨a,e1⟩:=hrx;simp only at hob;subst hob;exact none_ (by simp at hle;omega) a 0 e1
  |some p=>obtain⟨b,cap⟩:=p;rw[hm]at hrx hob;obtain⟨vs,row,o1,o2,_⟩:=hob;obtain⟨a,e1,e2⟩:=hrx;rcases AcK n with hl|hl;exact none_ hl a _ e1;have ha:=e2 (by omega);subst ha;obtain⟨w',hst,hg⟩:=T3 (P:=P) hi ho hun hm (off:=off) (n:=n) hle hzd (AJt hzd) (hcells n);exact⟨_,w',F,m,GL hop e1 (IZ hu hi0 hz0 _ hl _ hst),hg,by unfold Rep;trivial⟩
 cases h;cases h;cases h;cases h;cases h;cases h
end
end Go.Pev
end
section
namespace Go.Pev
open Go.RowKit
section
variable {P:Program}
def CW:(t:Ty)→t.den→List Value
 |.unit,_=>[]
 |.bool,b=>[.bool b]
 |.int k,n=>[.int k n]
 |.prod a b,d=>CW a d.1++CW b d.2
 |.slice _,_=>[]
 |.arr _ _,_=>[]
 |.nul _,_=>[]
 |.mapi _ _,_=>[]
def Br(t:Ty)(d:t.den):Value:=match t,d with
 |.int k,n=>.int k n
 |t,d=>.agg (CW t d).toArray
structure APE(P:Program)(kt:TypeId)(t:Ty):Prop where
 rep:∀ (w:World) (F:Nat→Prop) (d:t.den) (v:Value),BT w F t d v↔v=Br t d
 check:∀ (w:World) (b:Bool) (d:t.den),(Instr.checkKey b 10000 kt (Br t d)).run P w = .ok () w
 stays:∀ (w:World) (d:t.den),(Instr.keyThatStays (Br t d) (Br t d)).run P w = .ok (Br t d) w
 find:∀ (w:World) (F:Nat→Prop) (b:Ty) (key:t.den) (es:List (t.den×b.den)) (ms:List MapEntry),GX w F t b es ms →
  (@FJ _ _ (decDen t) es key=none∧@AO _ _ (decDen t) es key=none∧(Instr.findKey kt (Br t key) ms).run P w = .ok none w) ∨
  (∃ x n me,@FJ _ _ (decDen t) es key=some n∧@AO _ _ (decDen t) es key=some x∧(Instr.findKey kt (Br t key) ms).run P w = .ok (some (n,me.val)) w∧ms[n]? = some me∧BT w F b x me.val∧me.key=Br t key)
theorem APE.store{kt:TypeId}{t:Ty}(hK:APE P kt t){w:World}{F:Nat→Prop}{b:Ty}(key:t.den)(val:b.den)(v:Value)(hv:BT w F b val v):∀ {es:List (t.den×b.den)} {ms:List MapEntry},GX w F t b es ms →
  (∀ clock,@FJ _ _ (decDen t) es key=none→GX w F t b (@Ao _ _ (decDen t) es key val) (ms++[{ key:=Br t key,val:=v,born:=clock }])) ∧
  (∀ n,@FJ _ _ (decDen t) es key=some n→GX w F t b (@Ao _ _ (decDen t) es key val) (ms.modify n fun e=>{ e with key:=Br t key,val:=v })):=by
 haveI:=decDen t;intro es;induction es with
  |nil=>rintro ms rfl;exact⟨fun clock _=>⟨_,[],rfl,⟨(hK.rep w F key _).2 rfl,hv⟩,rfl⟩,fun n h=>by simp[FJ]at h⟩
  |cons e es ih=>rintro ms ⟨me0,ms',rfl,⟨h1,h2⟩,h3⟩;obtain⟨a,x⟩:=e;obtain⟨ih1,ih2⟩:=ih h3;by_cases hak:a=key;subst hak;refine⟨fun clock h=>by simp[FJ]at h,fun n h => ?_⟩;simp only[FJ,if_true,AbZ]at h;subst h;simp only[Ao,if_true,List.modify_zero_cons];exact⟨_,ms',rfl,⟨(hK.rep w F a _).2 rfl,hv⟩,h3⟩;simp only[Ao,hak,Acr,FJ];refine⟨fun clock h => ?_,fun n h => ?_⟩;rw[Option.map_eq_none_iff]at h;exact⟨me0,_,rfl,⟨h1,h2⟩,ih1 clock h⟩;rw[Abc]at h;obtain⟨n',h',rfl⟩:=h;rw[List.modify_succ_cons];exact⟨me0,_,rfl,⟨h1,h2⟩,ih2 n' h'⟩
theorem LF{kt:TypeId}{j:IntKind}(hu:P.underlying kt=some (.int j)):APE P kt (.int j):=by
 have hrep:∀ (w:World) (F:Nat→Prop) (d:Int) (v:Value),BT w F (.int j) d v↔v = .int j d:=by intro w F d v;show Dat w F (.int j) d [v]↔_;simp[Dat]
 refine⟨hrep,fun w b d => ?_,fun w d => ?_,fun w F b key es ms h => ?_⟩;have gen:∀ n,(Instr.checkKey b (n+1) kt (.int j d)).run P w = .ok () w:=fun n=>by simp[Instr.checkKey,run_underlying hu]
 exact gen 9999;have gen:∀ n,Instr.sameBits n (.int j d) (.int j d)=true:=fun n=>by cases n<;>simp[Instr.sameBits]
 show(Instr.keyThatStays (.int j d) (.int j d)).run P w=_;simp[Instr.keyThatStays,gen];rfl;have hfk:∀ r,Instr.findNow (.int j) (.int j key) ms 0=some r→(Instr.findKey kt (.int j key) ms).run P w = .ok r w:=by intro r hr';simp[Instr.findKey,run_underlying hu,hr']
 have gen:∀ (es:List (Int×b.den)) (ms:List MapEntry) (i:Nat),GX w F (.int j) b es ms →
   (FJ (α:=Int) es key=none∧AO (α:=Int) es key=none∧Instr.findNow (.int j) (.int j key) ms i=some none) ∨
   (∃ x n me,FJ (α:=Int) es key=some n∧AO (α:=Int) es key=some x∧Instr.findNow (.int j) (.int j key) ms i=some (some (i+n,me.val))∧ms[n]? = some me∧BT w F b x me.val∧me.key = .int j key):=by
  intro es
  induction es with
  |nil=>rintro ms i rfl;exact .inl ⟨rfl,rfl,rfl⟩
  |cons e es ih=>
   rintro ms i ⟨me,ms',rfl,⟨h1,h2⟩,h3⟩
   obtain⟨a,x⟩:=e
   have hk:=(hrep w F a _).1 h1
   simp only at h2
   by_cases hak:a=key
   ·subst hak
    refine .inr ⟨x,0,me,by simp[FJ],by simp[AO],?_,rfl,h2,hk⟩
    simp[Instr.findNow,Instr.sameNow,hk]
   ·have hfn:Instr.findNow (.int j) (.int j key) (me::ms') i=Instr.findNow (.int j) (.int j key) ms' (i+1):=by
     have:(key==a)=false:=by simp;exact fun h=>hak h.symm
     simp[Instr.findNow,Instr.sameNow,hk,this]
    rcases ih ms' (i+1) h3 with⟨q0,q1,q2⟩|⟨y,n,me',q0,q1,q2,q3,q4,q5⟩
    ·exact .inl ⟨by simp[FJ,hak,q0],by simp[AO,hak,q1],by rw[hfn];exact q2⟩
    ·exact .inr ⟨y,n+1,me',by simp[FJ,hak,q0],by simp[AO,hak,q1],by rw[hfn,q2,show i+1+n=i+(n+1)from by omega],by simpa using q3,q4,q5⟩
 rcases gen es ms 0 h with⟨q0,q1,q2⟩|⟨x,n,me,q0,q1,q2,q3,q4,q5⟩
 exact .inl ⟨q0,q1,hfk _ q2⟩;rw[Ab5]at q2;exact .inr ⟨x,n,me,q0,q1,hfk _ q2,q3,q4,q5⟩
theorem Lu{w:World}{F:Nat→Prop}:∀ (t:Ty) {n:List Bool},kinds? t=some n→∀ (d:t.den) (cs:List Value),Dat w F t d cs↔cs=CW t d
 |.unit,_,_,d,cs=>Iff.rfl
 |.prod (.int k) r,n,h,d,cs=>by simp only[kinds?,Abc]at h;obtain⟨n',h',rfl⟩:=h;constructor;rintro⟨c1,c2,rfl,h1,h2⟩;rw[(Lu r h' d.2 c2).1 h2];have h1:c1=[.int k d.1]:=h1;rw[h1];rfl;rintro rfl;exact⟨[.int k d.1],CW r d.2,rfl,rfl,(Lu r h' d.2 _).2 rfl⟩
 |.prod .bool r,n,h,d,cs=>by simp only[kinds?,Abc]at h;obtain⟨n',h',rfl⟩:=h;constructor;rintro⟨c1,c2,rfl,h1,h2⟩;rw[(Lu r h' d.2 c2).1 h2];have h1:c1=[.bool d.1]:=h1;rw[h1];rfl;rintro rfl;exact⟨[.bool d.1],CW r d.2,rfl,rfl,(Lu r h' d.2 _).2 rfl⟩
 |.prod .unit _,_,h,_,_=>by simp[kinds?]at h
 |.prod (.slice _) _,_,h,_,_=>by simp[kinds?]at h
 |.prod (.prod _ _) _,_,h,_,_=>by simp[kinds?]at h
 |.prod (.arr _ _) _,_,h,_,_=>by simp[kinds?]at h
 |.bool,_,h,_,_=>by simp[kinds?]at h
 |.int _,_,h,_,_=>by simp[kinds?]at h
 |.slice _,_,h,_,_=>by simp[kinds?]at h
 |.arr _ _,_,h,_,_=>by simp[kinds?]at h
theorem Mh:∀ (t:Ty) {n:List Bool},kinds? t=some n→∀ (d d':t.den),A1 n (BB t d) (BB t d')=some (@decide (d=d') (decDen t d d'))
 |.unit,n,h,d,d'=>by simp only[kinds?,AbZ]at h;subst h;cases d;cases d';simp[BB,A1]
 |.prod (.int k) r,n,h,d,d'=>by simp only[kinds?,Abc]at h;obtain⟨n',h',rfl⟩:=h;obtain⟨a,x⟩:=d;obtain⟨b,y⟩:=d';have:=Mh r h' x y;simp only[BB,AdO,A1,Aby,this,Ea];congr 1;by_cases h1:a=b;subst h1;by_cases h2:x=y;subst h2;simp;simp[h2];simp[h1]
 |.prod .bool r,n,h,d,d'=>by simp only[kinds?,Abc]at h;obtain⟨n',h',rfl⟩:=h;obtain⟨a,x⟩:=d;obtain⟨b,y⟩:=d';have:=Mh r h' x y;simp only[BB,AdO,A1,this];congr 1;by_cases h1:a=b;subst h1;by_cases h2:x=y;subst h2;simp;simp[h2];simp[h1]
 |.prod .unit _,_,h,_,_=>by simp[kinds?]at h
 |.prod (.slice _) _,_,h,_,_=>by simp[kinds?]at h
 |.prod (.prod _ _) _,_,h,_,_=>by simp[kinds?]at h
 |.prod (.arr _ _) _,_,h,_,_=>by simp[kinds?]at h
 |.bool,_,h,_,_=>by simp[kinds?]at h
 |.int _,_,h,_,_=>by simp[kinds?]at h
 |.slice _,_,h,_,_=>by simp[kinds?]at h
 |.arr _ _,_,h,_,_=>by simp[kinds?]at h
theorem KS:∀ (t:Ty) {n:List Bool},kinds? t=some n→∀ (d:t.den),∀ v∈CW t d,(∃ k i,v = .int k i)∨∃ b,v = .bool b
 |.unit,_,_,d,v,hv=>by simp[CW]at hv
 |.prod (.int k) r,n,h,d,v,hv=>by simp only[kinds?,Abc]at h;obtain⟨n',h',rfl⟩:=h;simp only[CW,AdO,AcH]at hv;rcases hv with rfl|hv;exact .inl ⟨_,_,rfl⟩;exact KS r h' d.2 v hv
 |.prod .bool r,n,h,d,v,hv=>by simp only[kinds?,Abc]at h;obtain⟨n',h',rfl⟩:=h;simp only[CW,AdO,AcH]at hv;rcases hv with rfl|hv;exact .inr ⟨_,rfl⟩;exact KS r h' d.2 v hv
 |.prod .unit _,_,h,_,_,_=>by simp[kinds?]at h
 |.prod (.slice _) _,_,h,_,_,_=>by simp[kinds?]at h
 |.prod (.prod _ _) _,_,h,_,_,_=>by simp[kinds?]at h
 |.prod (.arr _ _) _,_,h,_,_,_=>by simp[kinds?]at h
 |.bool,_,h,_,_,_=>by simp[kinds?]at h
 |.int _,_,h,_,_,_=>by simp[kinds?]at h
 |.slice _,_,h,_,_,_=>by simp[kinds?]at h
 |.arr _ _,_,h,_,_,_=>by simp[kinds?]at h
theorem HK{t:Ty}{n:List Bool}(h:kinds? t=some n)(d:t.den):Br t d = .agg (CW t d).toArray∧t.isAgg=true:=by cases t<;>first|exact⟨rfl,rfl⟩|(simp[kinds?]at h)
end
end Go.Pev
end
section
namespace Go.Pev
open Go.RowKit
section
variable {P:Program}
theorem KT:∀ (t:Ty) {n:List Bool},kinds? t=some n→∀ (d:t.den),(CW t d).length=n.length
 |.unit,n,h,d=>by simp only[kinds?,AbZ]at h;subst h;rfl
 |.prod (.int k) r,n,h,d=>by simp only[kinds?,Abc]at h;obtain⟨n',h',rfl⟩:=h;simp[CW,KT r h' d.2]
 |.prod .bool r,n,h,d=>by simp only[kinds?,Abc]at h;obtain⟨n',h',rfl⟩:=h;simp[CW,KT r h' d.2]
 |.prod .unit _,_,h,_=>by simp[kinds?]at h
 |.prod (.slice _) _,_,h,_=>by simp[kinds?]at h
 |.prod (.prod _ _) _,_,h,_=>by simp[kinds?]at h
 |.prod (.arr _ _) _,_,h,_=>by simp[kinds?]at h
 |.bool,_,h,_=>by simp[kinds?]at h
 |.int _,_,h,_=>by simp[kinds?]at h
 |.slice _,_,h,_=>by simp[kinds?]at h
 |.arr _ _,_,h,_=>by simp[kinds?]at h
theorem XY{w:World}{T:TypeId}(h:IX P T=true)(b:Bool)(n:Nat){v:Value}:(Instr.checkKey b (n+1) T v).run P w = .ok () w:=by
 rcases Bf h with⟨k,hk,_⟩|⟨hk,_⟩
 simp[Instr.checkKey,run_underlying hk];simp[Instr.checkKey,run_underlying hk]
theorem XZ{w:World}(b:Bool)(d:Nat)(xs:Array Value):∀ (fs:List Field) (i:Nat),DA P fs i=true→i+fs.length≤xs.size →
  (forIn fs PUnit.unit fun (f : Field) (_ : PUnit) => ((if f.name ≠ "_" then (part f.type xs f.offset >>= fun v => Instr.checkKey b (d + 1) f.type v >>= fun _ => pure (ForInStep.yield PUnit.unit)) else pure (ForInStep.yield PUnit.unit)) : Sem (ForInStep PUnit))).run P w = .ok PUnit.unit w := by
 intro fs;induction fs with
  |nil=>intro i _ _;simp[Sem.run_pure]
  |cons f fs ih=>
   intro i hok hl;simp only[DA,Aba,bne_iff_ne,Abb]at hok;obtain⟨hn,ho,hsc,hok⟩:=hok;rw[Abz]at hl;have hag:Dd P f.type=some false:=by rcases Bf hsc with⟨k,hk,_⟩|⟨hk,_⟩<;>simp[Dd,hk]
   have hlt:i<xs.size:=by omega
   have p1:(part f.type xs f.offset).run P w = .ok xs[i] w:=by rw[ho];simp[part,CC hag,hlt]
   have h3:=ih (i+1) hok (by omega);simp only[List.forIn_cons,Sem.run_bind,hn,ne_eq,not_false_eq_true,if_true,p1,Result.andThen_ok,XY hsc,Sem.run_pure];exact h3
theorem AGB{kt:TypeId}{t:Ty}{n:List Bool}(hs:structEq P kt=some n)(hk:kinds? t=some n):APE P kt t:=by
 obtain⟨fs,hu,hgt,hst,hok,hn⟩:=RR hs;have hfo:P.fieldsOf kt=fs:=by simp[Program.fieldsOf,hu]
 have hrep:∀ (w:World) (F:Nat→Prop) (d:t.den) (v:Value),BT w F t d v↔v=Br t d:=by intro w F d v;obtain⟨e1,e2⟩:=HK hk d;unfold BT;rw[AcO e2,e1];constructor;rintro⟨vs,rfl,h⟩;have:=(Lu t hk d _).1 h;rw[← this];rintro rfl;exact⟨_,rfl,(Lu t hk d _).2 (by simp)⟩
 have hlen:∀ d:t.den,(CW t d).length=fs.size:=by intro d;rw[KT t hk d,hn,List.length_map,Abe]
 refine⟨hrep,fun w b d => ?_,fun w d => ?_,fun w F b key es ms h => ?_⟩;rw[(HK hk d).1];have:=fun m=>XZ (P:=P) (w:=w) b m (CW t d).toArray fs.toList 0 hok (by rw[Ab7,hlen,Abe];omega);have gen:∀ m,(Instr.checkKey b (m+1+1) kt (.agg (CW t d).toArray)).run P w = .ok () w:=by intro m;rw[Instr.checkKey];simp only[Sem.run_bind,run_underlying hu,Result.andThen_ok];rw[← Array.forIn_toList,this m];rfl
 exact gen 9998;rw[(HK hk d).1];have gen:∀ m,Instr.sameBits (m+1) (.agg (CW t d).toArray) (.agg (CW t d).toArray)=true:=by
  intro m;have hz:∀ l:List Value,(∀ v∈l,(∃ k i,v = .int k i)∨∃ b,v = .bool b)→((l.zip l).all fun p=>Instr.sameBits m p.1 p.2)=true:=by
   intro l;induction l with
    |nil=>intro _;rfl
    |cons v l ih=>
     intro h;rw[List.zip_cons_cons,List.all_cons,ih (fun x hx=>h x (by simp[hx]))];rcases h v (by simp)with⟨k,i,rfl⟩|⟨b,rfl⟩
     cases m<;>simp[Instr.sameBits];cases m<;>simp[Instr.sameBits]
  simp only[Instr.sameBits,beq_self_eq_true,Bool.true_and];exact hz _ (KS t hk d)
 unfold Instr.keyThatStays;rw[gen 9999];rfl;have heq:∀ d d':t.den,(Op.equal kt (Br t d) (Br t d')).run P w = .ok (@decide (d=d') (decDen t d d')) w:=by intro d d';rw[(HK hk d).1,(HK hk d').1];unfold Op.equal Op.maxDepth;rw[run_equalIn_agg w 9999 kt _ _ (by rw[hfo];exact hu) hst,hfo];have r:∀ x:t.den,AP w F (fun _=>none) [] (BB t x) ((CW t x).toArray.toList.drop 0):=fun x=>GK t ((Lu t hk x _).2 (by simp));exact Lq 9998 _ _ fs.toList 0 (BB t d) (BB t d') _ hok (r d) (r d') (by rw[← hn];exact Mh t hk d d')
 have gen:∀ (es:List (t.den×b.den)) (ms:List MapEntry) (i:Nat),GX w F t b es ms →
   (FJ es key=none∧AO es key=none∧(Instr.findAsking kt (Br t key) ms i).run P w = .ok none w) ∨
   (∃ x n me,FJ es key=some n∧AO es key=some x∧(Instr.findAsking kt (Br t key) ms i).run P w = .ok (some (i+n,me.val)) w∧ms[n]? = some me∧BT w F b x me.val∧me.key=Br t key):=by
  intro es
  induction es with
  |nil=>rintro ms i rfl;exact .inl ⟨rfl,rfl,by simp[Instr.findAsking]⟩
  |cons e es ih=>
   rintro ms i ⟨me,ms',rfl,⟨h1,h2⟩,h3⟩
   obtain⟨a,x⟩:=e
   have hkk:=(hrep w F a _).1 h1
   simp only at h2
   have hq:=heq key a
   by_cases hak:a=key
   ·subst hak
    rw[AdP rfl]at hq
    refine .inr ⟨x,0,me,by simp[FJ],by simp[AO],?_,rfl,h2,hkk⟩
    simp[Instr.findAsking,hkk,hq]
   ·rw[decide_eq_false (fun h=>hak h.symm)]at hq
    have hfn:(Instr.findAsking kt (Br t key) (me::ms') i).run P w=(Instr.findAsking kt (Br t key) ms' (i+1)).run P w:=by
     simp[Instr.findAsking,hkk,hq]
    rcases ih ms' (i+1) h3 with⟨q0,q1,q2⟩|⟨y,n,me',q0,q1,q2,q3,q4,q5⟩
    ·exact .inl ⟨by simp[FJ,hak,q0],by simp[AO,hak,q1],by rw[hfn];exact q2⟩
    ·exact .inr ⟨y,n+1,me',by simp[FJ,hak,q0],by simp[AO,hak,q1],by rw[hfn,q2,show i+1+n=i+(n+1)from by omega],by simpa using q3,q4,q5⟩
 have hfk:∀ r,(Instr.findAsking kt (Br t key) ms).run P w = .ok r w→(ms=[]→r=none)→(Instr.findKey kt (Br t key) ms).run P w = .ok r w:=by
  intro r hr' hnil;cases ms with
   |nil=>simp[Instr.findKey,run_underlying hu,Instr.findNow,hnil rfl]
   |cons me ms=>simp only[Instr.findKey,Sem.run_bind,run_underlying hu,Result.andThen_ok,Instr.findNow,Instr.sameNow];exact hr'
 rcases gen es ms 0 h with⟨q0,q1,q2⟩|⟨x,n,me,q0,q1,q2,q3,q4,q5⟩
 exact .inl ⟨q0,q1,hfk _ q2 (fun _=>rfl)⟩;rw[Ab5]at q2;exact .inr ⟨x,n,me,q0,q1,hfk _ q2 (fun e=>by subst e;simp at q3),q3,q4,q5⟩
theorem Ra{T:TypeId}{t:Ty}(h:K7 P T=some t):∃ e k,P.underlying T=some (.array 2 e)∧P.underlying e=some (.int k)∧Az P e=some 1∧t = .prod (.int k) (.prod (.int k) .unit):=by unfold K7 at h;split at h;rename_i n e hu;split at h;rename_i k hn he hs;rw[Abb]at hn hs;subst hn;cases h;exact⟨e,k,hu,he,hs,rfl⟩;cases h;cases h
theorem ASs{kt:TypeId}{t:Ty}(hp:K7 P kt=some t):APE P kt t:=by
 obtain⟨e,j,hu,he,hs,rfl⟩:=Ra hp;obtain⟨i0,hi0,hi1⟩:=Av hs;have hk:kinds? (.prod (.int j) (.prod (.int j) .unit))=some [true,true]:=rfl;have hag:Dd P e=some false:=by simp[Dd,he]
 have hsz:∀ w,(sizeOf e).run P w = .ok 1 w:=fun w=>by rw[run_sizeOf hi0,hi1]
 have hkv:∀ d:(Ty.prod (.int j) (.prod (.int j) .unit)).den,Br (.prod (.int j) (.prod (.int j) .unit)) d = .agg #[.int j d.1,.int j d.2.1]:=fun d=>rfl;have hrep:∀ (w:World) (F:Nat→Prop) (d:(Ty.prod (.int j) (.prod (.int j) .unit)).den) (v:Value),BT w F (.prod (.int j) (.prod (.int j) .unit)) d v↔v=Br (.prod (.int j) (.prod (.int j) .unit)) d:=by intro w F d v;obtain⟨e1,e2⟩:=HK hk d;unfold BT;rw[AcO e2,e1];constructor;rintro⟨vs,rfl,h⟩;have:=(Lu _ hk d _).1 h;rw[← this];rintro rfl;exact⟨_,rfl,(Lu _ hk d _).2 (by simp)⟩
 have hpart:∀ (w:World) (a b:Value),(part e #[a,b] 0).run P w = .ok a w∧(part e #[a,b] 1).run P w = .ok b w:=fun w a b=>by constructor<;>simp[part,CC hag]
 have hck1:∀ (w:World) (b:Bool) (n:Nat) (d:Int),(Instr.checkKey b (n+1) e (.int j d)).run P w = .ok () w:=fun w b n d=>by simp[Instr.checkKey,run_underlying he]
 refine⟨hrep,fun w b d => ?_,fun w d => ?_,fun w F b key es ms h => ?_⟩;rw[hkv];have gen:∀ m,(Instr.checkKey b (m+1+1) kt (.agg #[.int j d.1,.int j d.2.1])).run P w = .ok () w:=by intro m;rw[Instr.checkKey];simp only[Sem.run_bind,run_underlying hu,Result.andThen_ok];simp[Std.Legacy.Range.forIn_eq_forIn_range',Std.Legacy.Range.size,List.range',hsz,(hpart w _ _).1,(hpart w _ _).2,hck1]
 exact gen 9998;rw[hkv];have gen:∀ m,Instr.sameBits (m+1) (.agg #[.int j d.1,.int j d.2.1]) (.agg #[.int j d.1,.int j d.2.1])=true:=by intro m;cases m<;>simp[Instr.sameBits]
 unfold Instr.keyThatStays;rw[gen 9999];rfl;have heq:∀ d d':(Ty.prod (.int j) (.prod (.int j) .unit)).den,(Op.equal kt (Br (.prod (.int j) (.prod (.int j) .unit)) d) (Br (.prod (.int j) (.prod (.int j) .unit)) d')).run P w = .ok (@decide (d=d') (decDen (.prod (.int j) (.prod (.int j) .unit)) d d')) w:=by
  intro d d';rw[hkv,hkv];have hone:∀ (n:Nat) (a b:Int),(Op.equalIn (n+1) e (.int j a) (.int j b)).run P w = .ok (a==b) w:=fun n a b=>by simp[Op.equalIn,run_underlying he]
  have gen:∀ n,(Op.equalIn (n+1+1) kt (.agg #[.int j d.1,.int j d.2.1]) (.agg #[.int j d'.1,.int j d'.2.1])).run P w = .ok ((d.1==d'.1)&&(d.2.1==d'.2.1)) w:=by intro n;rw[Op.equalIn];simp only[Sem.run_bind,run_underlying hu,Result.andThen_ok,hsz];simp only[Std.Legacy.Range.forIn_eq_forIn_range',Std.Legacy.Range.size,List.range',AdL,Acd];by_cases h1:d.1=d'.1;by_cases h2:d.2.1=d'.2.1<;>simp[hone,(hpart w _ _).1,(hpart w _ _).2,h1,h2];simp[hone,(hpart w _ _).1,(hpart w _ _).2,h1]
  unfold Op.equal;have:=gen 9998;rw[show Op.maxDepth=9998+1+1 from rfl,this];congr 1;rw[Bool.eq_iff_iff,Aba,AcW,AcW];rw[decide_eq_true_iff];obtain⟨a,b,⟨⟩⟩:=d;obtain⟨a',b',⟨⟩⟩:=d';constructor;rintro⟨h1,h2⟩;have h1:a=a':=h1;have h2:b=b':=h2;rw[h1,h2];intro h;cases h;exact⟨rfl,rfl⟩
 have gen:∀ (es:List ((Ty.prod (.int j) (.prod (.int j) .unit)).den×b.den)) (ms:List MapEntry) (i:Nat),GX w F (.prod (.int j) (.prod (.int j) .unit)) b es ms →
   (@FJ _ _ (decDen _) es key=none∧@AO _ _ (decDen _) es key=none∧(Instr.findAsking kt (Br (.prod (.int j) (.prod (.int j) .unit)) key) ms i).run P w = .ok none w) ∨
   (∃ x n me,@FJ _ _ (decDen _) es key=some n∧@AO _ _ (decDen _) es key=some x∧(Instr.findAsking kt (Br (.prod (.int j) (.prod (.int j) .unit)) key) ms i).run P w = .ok (some (i+n,me.val)) w∧ms[n]? = some me∧BT w F b x me.val∧me.key=Br (.prod (.int j) (.prod (.int j) .unit)) key):=by
  intro es
  induction es with
  |nil=>rintro ms i rfl;exact .inl ⟨rfl,rfl,by simp[Instr.findAsking]⟩
  |cons e' es ih=>
   rintro ms i ⟨me,ms',rfl,⟨h1,h2⟩,h3⟩
   obtain⟨a,x⟩:=e'
   have hkk:=(hrep w F a _).1 h1
   simp only at h2
   have hq:=heq key a
   by_cases hak:a=key
   ·subst hak
    rw[AdP rfl]at hq
    refine .inr ⟨x,0,me,by simp[FJ],by simp[AO],?_,rfl,h2,hkk⟩
    simp[Instr.findAsking,hkk,hq]
   ·rw[decide_eq_false (fun h=>hak h.symm)]at hq
    have hfn:(Instr.findAsking kt (Br (.prod (.int j) (.prod (.int j) .unit)) key) (me::ms') i).run P w=(Instr.findAsking kt (Br (.prod (.int j) (.prod (.int j) .unit)) key) ms' (i+1)).run P w:=by
     simp[Instr.findAsking,hkk,hq]
    rcases ih ms' (i+1) h3 with⟨q0,q1,q2⟩|⟨y,n,me',q0,q1,q2,q3,q4,q5⟩
    ·exact .inl ⟨by simp[FJ,hak,q0],by simp[AO,hak,q1],by rw[hfn];exact q2⟩
    ·exact .inr ⟨y,n+1,me',by simp[FJ,hak,q0],by simp[AO,hak,q1],by rw[hfn,q2,show i+1+n=i+(n+1)from by omega],by simpa using q3,q4,q5⟩
 have hfk:∀ r,(Instr.findAsking kt (Br (.prod (.int j) (.prod (.int j) .unit)) key) ms).run P w = .ok r w→(ms=[]→r=none)→(Instr.findKey kt (Br (.prod (.int j) (.prod (.int j) .unit)) key) ms).run P w = .ok r w:=by
  intro r hr' hnil;cases ms with
   |nil=>simp[Instr.findKey,run_underlying hu,Instr.findNow,hnil rfl]
   |cons me ms=>simp only[Instr.findKey,Sem.run_bind,run_underlying hu,Result.andThen_ok,Instr.findNow,Instr.sameNow];exact hr'
 rcases gen es ms 0 h with⟨q0,q1,q2⟩|⟨x,n,me,q0,q1,q2,q3,q4,q5⟩
 exact .inl ⟨q0,q1,hfk _ q2 (fun _=>rfl)⟩;rw[Ab5]at q2;exact .inr ⟨x,n,me,q0,q1,hfk _ q2 (fun e=>by subst e;simp at q3),q3,q4,q5⟩
theorem LG{kt:TypeId}{t:Ty}(h:NK P kt=some t):APE P kt t:=by unfold NK at h;split at h;rename_i t' hi;cases h;unfold AS1 at hi;split at hi;rename_i k hu;cases hi;exact LF hu;cases hi;split at h;rename_i n t' hs ht;split at h;rename_i hd;cases h;exact AGB hs (of_decide_eq_true hd);cases h;exact ASs h
end
end Go.Pev
end
section
namespace Go.Pev
open Go.RowKit
section
variable {P:Program} {E:Env}
theorem AS0{w:World}{F:Nat→Prop}{m:Mp}{H:List Ob}:∀ {cs:List AV} {l:List (IntKind×Int)} {us:List Value},AAu cs=some l→AP w F m H cs us→us=l.map fun p=>Value.int p.1 p.2:=by
 intro cs;induction cs with
  |nil=>intro l us h hr;simp only[AAu,AbZ]at h;subst h;unfold AP at hr;exact hr
  |cons c cs ih=>intro l us h hr;unfold AAu at h;split at h;rename_i h1;cases h1;rename_i k n r h1;cases h1;simp only[Abc]at h;obtain⟨l',h2,rfl⟩:=h;unfold AP at hr;obtain⟨u,us',rfl,h3,h4⟩:=hr;rw[As h3,ih h2 h4];rfl;cases h
theorem ASy{w:World}{F:Nat→Prop}{m:Mp}{H:List Ob}:∀ (l:List (IntKind×Int)),AP w F m H (l.map fun p=>AV.data (.int p.1) p.2) (l.map fun p=>Value.int p.1 p.2):=by
 intro l;induction l with
  |nil=>unfold AP;rfl
  |cons p l ih=>simp only[AcL];unfold AP;exact⟨_,_,rfl,Aj _ _,ih⟩
theorem Jw(T:TypeId)(x:Operand):Claim P E (.makeInterface T x):=by
 intro R ty ρ H fz slot k r h;simp only[evalOp,Df]at h;split at h;rename_i fs l hu hag hl;refine⟨_,_,h,fun R' k'=>by simp only[evalOp,Df,hu,hag,hl],AL fun w F m ρc o hop hty hi hr => ?_⟩;cases hc:cells? (ρ x)with
  |none=>rw[hc]at hl;cases hl
  |some cs=>
   rw[hc]at hl;simp only[Option.bind_some]at hl;obtain⟨vs,e1⟩:=HV hag (hr x);have hrc:=cells?_ok hc (hr x);rw[e1]at hrc;have e2:=AS0 hl hrc;simp only[Value.cells]at e2;refine⟨Gz (some (T,l)),?_,by unfold Rep;rfl⟩;have e3:vs=(l.map fun p=>Value.int p.1 p.2).toArray:=by rw[← e2]
   simp[execOp,hop,e1,Instr.makeInterface,run_underlying hu,Gz,e3]
 cases h
theorem Ml(x:Operand)(S T:TypeId)(ok:Bool):Claim P E (.typeAssert x S T ok):=by
 intro R ty ρ H fz slot k r h;simp only[evalOp,DQ]at h;split at h;rename_i fs t cs q hu hz hx;split at h;rename_i hok;have hok':=hok;rw[Aba]at hok';obtain⟨rfl,hag⟩:=hok';obtain⟨hty',hcs',i,z,hi0,hz0,hzk,hsz,hza⟩:=BR hz;have hzr:∀ (w:World) (F:Nat→Prop) (m:Mp),Rep w F m H (.agg cs) z:=by
  intro w F m;rw[hag]at hza;cases z with
   |agg zs=>unfold Rep;exact⟨zs,rfl,FW _ _ hzk,Hc _ _ hzk⟩
   |_=>simp[KU]at hza
 have tup:∀ (w:World) (F:Nat→Prop) (m:Mp) (a:AV) (u:Value) (b:Bool),Rep w F m H a u→Rep w F m H (.tup [a,.data .bool b]) (.tuple #[u,.bool b]):=by intro w F m a u b h;unfold Rep;refine⟨_,rfl,?_⟩;unfold AP;exact⟨u,_,rfl,h,JA (A0 _)⟩
 have hq:∀ {w:World} {F:Nat→Prop} {m:Mp} {ρc:Operand→Value},(∀ x,Rep w F m H (ρ x) (ρc x))→ρc x=Gz q:=by intro w F m ρc hr;have r1:=hx▸hr x;unfold Rep at r1;exact r1
 split at h;refine⟨_,_,h,fun R' k'=>by simp only[evalOp,DQ,hu,hz,hx,hok],AL fun w F m ρc o hop hty hi hr=>⟨_,?_,tup w F m _ z false (hzr w F m)⟩⟩;simp[execOp,hop,hq hr,Gz,Instr.typeAssert,run_underlying hu,A5 hi0 hz0];rename_i T' l;split at h;rename_i hT;refine⟨_,_,h,fun R' k'=>by simp only[evalOp,DQ,hu,hz,hx,hok,hT],AL fun w F m ρc o hop hty hi hr=>⟨_,?_,tup w F m _ (.agg (l.map fun p=>Value.int p.1 p.2).toArray) true ?_⟩⟩;simp only[Abb]at hT;simp[execOp,hop,hq hr,Gz,Instr.typeAssert,run_underlying hu,hT];unfold Rep;refine⟨_,rfl,by simpa using ASy l,fun u hu => ?_⟩;simp only[Acl]at hu;obtain⟨p,_,rfl⟩:=hu;rfl;rename_i hT;refine⟨_,_,h,fun R' k'=>by simp only[evalOp,DQ,hu,hz,hx,hok,hT],AL fun w F m ρc o hop hty hi hr=>⟨_,?_,tup w F m _ z false (hzr w F m)⟩⟩;simp only[Acn]at hT;simp[execOp,hop,hq hr,Gz,Instr.typeAssert,run_underlying hu,A5 hi0 hz0,hT];cases h;cases h
end
end Go.Pev
end
section
namespace Go.Pev
open Go.RowKit
section
variable {P:Program} {E:Env}
theorem AHG(hE:∀ g,Ad P g (E.spec g))(f:Operand)(args:Array Operand)(ts:Array TypeId):Claim P E (.call { callee:=.value f,args:=args,argTypes:=ts }):=by
 intro R ty ρ H fz slot k r h;simp only[evalOp,G4]at h;split at h
 ·rename_i g caps hf;obtain⟨v,e,h1,h2,h3,h4⟩:=hE g R _ H fz slot k r h;refine⟨v,e,h1,fun R' k'=>by simp only[evalOp,G4,hf];exact h2 R' k',?_⟩;intro w F m a o next Q hop hty hi hr hn
  have hrf:=hr f;rw[hf]at hrf;unfold Rep at hrf;obtain⟨cs,e1,e2⟩:=hrf;have hargs:AP w F m H (args.toList.map ρ++caps) ((args.map a.eval++cs).toList):=by
   rw[Acp,AcI];exact E8 (Cm (by simp) fun i c v hc hv=>by
    rw[Ab6]at hc hv;cases hx:args.toList[i]? with
     |none=>rw[hx]at hc;cases hc
     |some x=>rw[hx]at hc hv;cases hc;cases hv;exact hr x) e2
  have hcall:=h4 w F m _ hi hargs;rw[AcU]at hcall;unfold Oper.wp;have hrun:(execOp a.eval o).run P w = .ok (.enter g (args.map a.eval++cs)) w:=by simp[execOp,hop,resolve,e1,Deferred.ofValue,invoke,h3 _ w]
  rw[hrun];exact hcall.mono fun en w' ⟨u,hen,F',m',hg,hrep⟩=>by subst hen;exact hn u w' F' m' hg hrep
 ·rename_i g caps hf;obtain⟨v,e,h1,h2,h3,h4⟩:=hE g R _ H fz slot k r h;refine⟨v,e,h1,fun R' k'=>by simp only[evalOp,G4,hf];exact h2 R' k',?_⟩;intro w F m a o next Q hop hty hi hr hn
  have hrf:=hr f;rw[hf]at hrf;unfold Rep at hrf;obtain⟨cs,e1,e2⟩:=hrf;have hargs:AP w F m H (caps++args.toList.map ρ) ((cs++args.map a.eval).toList):=by
   rw[Acp,AcI];exact E8 e2 (Cm (by simp) fun i c v hc hv=>by
    rw[Ab6]at hc hv;cases hx:args.toList[i]? with
     |none=>rw[hx]at hc;cases hc
     |some x=>rw[hx]at hc hv;cases hc;cases hv;exact hr x)
  have hcall:=h4 w F m _ hi hargs;rw[AcU]at hcall;unfold Oper.wp;have hrun:(execOp a.eval o).run P w = .ok (.enter g (cs++args.map a.eval)) w:=by simp[execOp,hop,resolve,e1,Deferred.ofValue,invoke,h3 _ w]
  rw[hrun];exact hcall.mono fun en w' ⟨u,hen,F',m',hg,hrep⟩=>by subst hen;exact hn u w' F' m' hg hrep
 cases h
theorem AEO{T:TypeId}(h:AIU P T=true):P.underlying T=some .string:=by unfold AIU at h;split at h;assumption;cases h
theorem Xb{T:TypeId}(h:Ou P T=true):∃ e,P.underlying T=some (.slice e)∧P.underlying e=some (.int .u8):=by unfold Ou at h;split at h;rename_i e hu;split at h;rename_i hu';exact⟨e,hu,hu'⟩;cases h;cases h
theorem AEq{w:World}{F:Nat→Prop}:∀ {xs:List Int} {row:List Value},rows (Dat w F (.int .u8)) xs row→row=xs.map (Value.int .u8):=by
 intro xs;induction xs with
  |nil=>rintro row rfl;rfl
  |cons x xs ih=>
   rintro row ⟨c1,c2,rfl,h1,h2⟩;rw[ih h2];have h1:c1=[.int .u8 x]:=by simpa [Dat]using h1
   rw[h1];rfl
theorem AEx:∀ (xs:List Int) (s:ByteArray),bytesOf (xs.foldl (fun r n=>r.push (UInt8.ofNat n.toNat)) s)=bytesOf s++Mi xs:=by
 intro xs;induction xs with
  |nil=>intro s;simp[Mi]
  |cons x xs ih=>intro s;rw[List.foldl_cons,ih];simp[bytesOf,Mi,ByteArray.push]
theorem AUG{S T:TypeId}{x:Operand}{w:World}{F:Nat→Prop}{m:Mp}{H:List Ob}{fz:List Bool}{v:AV}{xs:List Int}{fr:List Nat}{ρc:Operand→Value}{o:Oper}(hop:o.op = .convert S T x)
  (hs:Ou P S=true) (hd:AIU P T=true) (hi:HI w F m H fz) (hx:Dn H (.slice (.int .u8)) v=some (xs,fr)) (hr:Rep w F m H v (ρc x)) :
  ∃ u,(execOp ρc o).run P w = .ok (.value u) w∧Rep w F m H (.str (Mi xs)) u:=by
 obtain⟨e,h1,h2⟩:=Xb hs;have h3:=AEO hd;obtain⟨a,cap,e1,hle,hne,news,hrows,hcell⟩:=DC hi hx hr;cases a with
  |none=>
   have hxs:xs=[]:=by
    cases xs with
     |nil=>rfl
     |cons a b=>exact absurd (hne (by simp)) (by simp)
   subst hxs;refine⟨.string ByteArray.empty,?_,?_⟩;simp[execOp,hop,e1,run_convert_bytes_string w S T e none _ _ h1 h2 h3,Conv.bytesToString];unfold Rep;exact⟨_,rfl,rfl⟩
  |some ad=>
   have hn:=AEq hrows;subst hn;have hl:(Go.loadCells ad xs.length).run P w = .ok (xs.map (Value.int .u8)).toArray w:=by have:=run_loadCells_list (P:=P) w ad (xs.map (Value.int .u8)) (fun j v hj=>hcell ad rfl j v hj);simpa using this
   refine⟨.string (xs.foldl (fun r n=>r.push (UInt8.ofNat n.toNat)) ByteArray.empty),?_,?_⟩;simp[execOp,hop,e1,run_convert_bytes_string w S T e (some ad) _ _ h1 h2 h3,run_bytesToString w ad _ cap xs hl];unfold Rep;exact⟨_,rfl,(AEx _ _).trans (AcS _)⟩
theorem R5(S T:TypeId)(x:Operand):Claim P E (.convert S T x):=by intro R ty ρ H fz slot k r h;simp only[evalOp,Ec]at h;split at h;rename_i j' n j hx hs hk;refine⟨_,_,h,fun R' k'=>by simp only[evalOp,Ec,hx,hs,hk],AL fun w F m ρc o hop hty hi hr=>⟨.int j (j.wrap n),?_,Aj _ _⟩⟩;have e1:=As (hx▸hr x);obtain⟨d,hd⟩:=AcP.1 hs;simp[execOp,hop,e1,convert,run_underlying hd,run_underlying (E1 hk),Conv.intToInt];rename_i v b1 b2 hne;split at h;rename_i hs hd;split at h;rename_i xs fr hx;refine⟨_,_,h,fun R' k' => ?_,AL fun w F m ρc o hop hty hi hr=>AUG hop hs hd hi hx (hr x)⟩;simp only[evalOp,Ec];simp only[hs,hd,hx];cases h;cases h
theorem K3{w:World}{F:Nat→Prop}{k:IntKind}{n:Int}{v:Value}(h:BT w F (.int k) n v):v = .int k n:=by unfold BT at h;have h:Dat w F (.int k) n [v]:=h;simpa [Dat]using h
theorem BP{w:World}{r:Nat}{ms:Array MapEntry}{clock:Nat}(h:w.heap[r]? = some (.map ms clock)):(getObj r).run P w = .ok (.map ms clock) w:=by simp[getObj,Sem.run,h]
theorem Gn{kt:TypeId}{j:IntKind}(hu:P.underlying kt=some (.int j)){key:Int}{ms:List MapEntry}{w:World}{r:Option (Nat×Value)}(h:Instr.findNow (.int j) (.int j key) ms 0=some r):(Instr.findKey kt (.int j key) ms).run P w = .ok r w:=by simp[Instr.findKey,run_underlying hu,h]
theorem Te{kt:TypeId}{j:IntKind}(hu:P.underlying kt=some (.int j)){w:World}(key:Int){ks:List Int}{ms:Array MapEntry}(h:ms.toList.map (·.key)=ks.map (Value.int j)):
  (Fa ks key=ks.length∧(Instr.findKey kt (.int j key) ms.toList).run P w = .ok none w) ∨
  (∃ me,Fa ks key<ks.length∧ms.toList[Fa ks key]? = some me∧me.key = .int j key∧ks[Fa ks key]? = some key∧(Instr.findKey kt (.int j key) ms.toList).run P w = .ok (some (Fa ks key,me.val)) w):=by
 have gen:∀ (ks:List Int) (ms:List MapEntry) (i:Nat),ms.map (·.key)=ks.map (Value.int j) →
   (Fa ks key=ks.length∧Instr.findNow (.int j) (.int j key) ms i=some none) ∨
   (∃ me,Fa ks key<ks.length∧ms[Fa ks key]? = some me∧me.key = .int j key∧ks[Fa ks key]? = some key∧Instr.findNow (.int j) (.int j key) ms i=some (some (i+Fa ks key,me.val))):=by
  intro ks
  induction ks with
  |nil=>
   intro ms i h
   have:ms=[]:=by simpa using h
   subst this
   exact .inl ⟨rfl,rfl⟩
  |cons a ks ih=>
   intro ms i h
   cases ms with
   |nil=>simp at h
   |cons me ms=>
    simp only[AcL,AcY]at h
    obtain⟨hk,h⟩:=h
    by_cases hak:a=key
    ·subst hak
     refine .inr ⟨me,by simp[Fa],by simp[Fa],hk,by simp[Fa],?_⟩
     simp[Instr.findNow,Instr.sameNow,hk,Fa]
    ·have hfn:Instr.findNow (.int j) (.int j key) (me::ms) i=Instr.findNow (.int j) (.int j key) ms (i+1):=by
      have:(key==a)=false:=by simp;exact fun h=>hak h.symm
      simp[Instr.findNow,Instr.sameNow,hk,this]
     have hp:Fa (a::ks) key=Fa ks key+1:=by simp[Fa,hak]
     rcases ih ms (i+1) h with⟨q0,q2⟩|⟨me',q0,q1,q2,q3,q4⟩
     ·exact .inl ⟨by rw[hp,q0];rfl,by rw[hfn];exact q2⟩
     ·exact .inr ⟨me',by rw[hp];simpa using q0,by rw[hp];simpa using q1,q2,by rw[hp];simpa using q3,by rw[hfn,q4,hp,show i+1+Fa ks key=i+(Fa ks key+1)from by omega]⟩
 rcases gen ks ms.toList 0 h with⟨q0,q2⟩|⟨me,q0,q1,q2,q3,q4⟩
 exact .inl ⟨q0,Gn hu q2⟩;rw[Ab5]at q4;exact .inr ⟨me,q0,q1,q2,q3,Gn hu q4⟩
theorem ANr{kt:TypeId}{j:IntKind}(hu:P.underlying kt=some (.int j)){w:World}(key:Int){β:Type}{V:β→Value→Prop}{es:List (Int×β)}{ms:List MapEntry}(h:P6 (fun d v=>v = .int j d) V es ms):
  (AO es key=none∧(Instr.findKey kt (.int j key) ms).run P w = .ok none w) ∨
  (∃ (x:β) (n:Nat) (me:MapEntry),AO es key=some x∧(Instr.findKey kt (.int j key) ms).run P w = .ok (some (n,me.val)) w∧V x me.val):=by
 have gen:∀ (es:List (Int×β)) (ms:List MapEntry) (i:Nat),P6 (fun d v=>v = .int j d) V es ms →
   (AO es key=none∧Instr.findNow (.int j) (.int j key) ms i=some none) ∨
   (∃ (x:β) (n:Nat) (me:MapEntry),AO es key=some x∧Instr.findNow (.int j) (.int j key) ms i=some (some (n,me.val))∧V x me.val):=by
  intro es
  induction es with
  |nil=>rintro ms i rfl;exact .inl ⟨rfl,rfl⟩
  |cons e es ih=>
   rintro ms i ⟨me,ms',rfl,hk,hv,h3⟩
   obtain⟨a,x⟩:=e
   have hk:me.key = .int j a:=hk
   by_cases hak:a=key
   ·subst hak
    refine .inr ⟨x,i,me,by simp[AO],?_,hv⟩
    simp[Instr.findNow,Instr.sameNow,hk]
   ·have hfn:Instr.findNow (.int j) (.int j key) (me::ms') i=Instr.findNow (.int j) (.int j key) ms' (i+1):=by
     have:(key==a)=false:=by simp;exact fun h=>hak h.symm
     simp[Instr.findNow,Instr.sameNow,hk,this]
    rcases ih ms' (i+1) h3 with⟨q1,q2⟩|⟨y,n,me',q1,q2,q3⟩
    ·exact .inl ⟨by simp[AO,hak,q1],by rw[hfn];exact q2⟩
    ·exact .inr ⟨y,n,me',by simp[AO,hak,q1],by rw[hfn];exact q2,q3⟩
 rcases gen es ms 0 h with⟨q1,q2⟩|⟨x,n,me,q1,q2,q3⟩
 exact .inl ⟨q1,Gn hu q2⟩;exact .inr ⟨x,n,me,q1,Gn hu q2,q3⟩
theorem XU(T:TypeId)(mm x:Operand)(ok:Bool):Claim P E (.lookup T mm x ok):=by
 intro R ty ρ H fz slot k r h;simp only[evalOp,C9]at h;split at h;rename_i kt vt id hu hm;split at h;rename_i ka b es ho;split at h;rename_i b' cs' hkt hz;split at h;rename_i key fr hb hx;simp only[Abb]at hb;subst hb;have hkt':=hkt;simp only[Abb]at hkt';have hK:=LG hkt';obtain⟨hty',hcs',i,z,hi0,hz0,hok,hsz,hza⟩:=BR hz;subst hcs'
 have main:∀ (w:World) (F:Nat→Prop) (m:Mp) (ρc:Operand→Value) (o:Oper),o.op = .lookup T mm x ok→HI w F m H fz→(∀ x,Rep w F m H (ρ x) (ρc x)) →
   ∃ u,(execOp ρc o).run P w = .ok (.value (if ok then .tuple #[u,.bool (AO (α:=ka.den) es key).isSome]else u)) w∧BT w F b' ((AO (α:=ka.den) es key).getD b'.zero) u:=by
  intro w F m ρc o hop hi hr
  have hrm:=hr mm
  rw[hm]at hrm
  unfold Rep at hrm
  rw[ho]at hrm
  obtain⟨bb,c,e1,e2⟩:=hrm
  obtain⟨b2,c',ms,clock,e3,e4,e5,_⟩:=hi.obj id _ ho
  rw[e1]at e3;cases e3
  have hkv:ρc x=Br ka key:=(hK.rep _ _ _ _).1 (Cl hi hx (hr x))
  have hck:=hK.check w ms.isEmpty key
  rcases hK.find w F _ key es ms.toList e5 with⟨_,q1,q2⟩|⟨y,n,me,_,q1,q2,q3,q4,_⟩
  ·refine⟨z,?_,by rw[q1];exact JL hok hza⟩
   rw[q1]
   simp only[execOp,hop,e2,hkv,Instr.lookup,Sem.run_bind,run_underlying hu,Result.andThen_ok,BP e4,hck,q2,A5 hi0 hz0,Sem.run_pure]
   cases ok<;>rfl
  ·refine⟨me.val,?_,by rw[q1];exact q4⟩
   rw[q1]
   simp only[execOp,hop,e2,hkv,Instr.lookup,Sem.run_bind,run_underlying hu,Result.andThen_ok,BP e4,hck,q2,Sem.run_pure]
   cases ok<;>rfl
 split at h;refine⟨_,_,h,fun R' k'=>by simp only[evalOp,C9,hu,hm,ho,hkt,hz,Aby,hx],AL fun w F m ρc o hop hty hi hr => ?_⟩;obtain⟨u,h1,h2⟩:=main w F m ρc o hop hi hr;refine⟨_,h1,?_⟩;unfold Rep;refine⟨_,rfl,?_⟩;unfold AP;refine⟨u,_,rfl,by unfold Rep;exact h2,JA (A0 _)⟩;refine⟨_,_,h,fun R' k'=>by simp only[evalOp,C9,hu,hm,ho,hkt,hz,Aby,hx],AL fun w F m ρc o hop hty hi hr => ?_⟩;obtain⟨u,h1,h2⟩:=main w F m ρc o hop hi hr;exact⟨u,h1,by unfold Rep;exact h2⟩;cases h;cases h;rename_i j ks e t xs ver ho;split at h;rename_i e' t' hk hsl hz;split at h;rename_i key fr he hx;refine⟨_,_,h,fun R' k'=>by simp only[evalOp,C9,hu,hm,ho,hk,hsl,hz,he,hx],AL fun w F m ρc o hop hty hi hr => ?_⟩;simp only[Abb]at hk he;simp only[Aba,AcQ,AcP]at hz;obtain⟨⟨⟨b',cs'⟩,hz⟩,rfl⟩:=hz;obtain⟨hty',hcs',i,z,hi0,hz0,hok,hsz,hza⟩:=BR hz;subst hcs';obtain⟨hu2,hty2,hpos2⟩:=Bb hsl;have htt:∃ y,b' = .slice y:=by unfold VY Nu at hty';rw[hu2]at hty';simp only[Abc]at hty';obtain⟨y,_,rfl⟩:=hty';exact⟨y,rfl⟩
 obtain⟨y,rfl⟩:=htt;have hz1:z = .slice none 0 0:=by
  have h1:z.cells.toList=[.slice none 0 0]:=BJ (w:=w) (F:=F) (.nul y) _ hok;cases z with
   |agg vs=>simp[KU,Ty.isAgg]at hza
   |_=>simp[Value.cells]at h1<;>first|exact h1|(obtain⟨rfl,rfl,rfl⟩:=h1;rfl)
 have hrm:=hr mm;rw[hm]at hrm;unfold Rep at hrm;rw[ho]at hrm;obtain⟨bb,c,e1,e2⟩:=hrm;obtain⟨_,e3⟩:=hi.obj id _ ho;rw[e1]at e3;obtain⟨ms,clock,e4,e5,e6,e7,_⟩:=e3;have e7:=e7.resolve_right fun h=>by cases h.1
 have hkv:ρc x = .int j key:=K3 (Cl hi hx (hr x));have hku:=E1 hk;have hck:=(LF hku).check w ms.isEmpty key;have hck:(Instr.checkKey ms.isEmpty 10000 kt (.int j key)).run P w = .ok () w:=hck;rcases Te (w:=w) hku key e6 with⟨q1,q2⟩|⟨me,q1,q2,q3,q4,q5⟩
 refine⟨.slice none 0 0,?_,?_⟩;simp only[execOp,hop,e2,hkv,Instr.lookup,Sem.run_bind,run_underlying hu,Result.andThen_ok,BP e4,hck,q2,A5 hi0 hz0,Sem.run_pure,hz1];rfl;unfold Rep;rw[ho];exact⟨rfl,Abd _,fun _=>.inr ⟨rfl,by rw[q1,e7],rfl⟩⟩;obtain⟨b3,c3,u,r1,⟨ms',clock',en,r2,r3,r4⟩,r5⟩:=ZX hi ho (k:=Fa ks key) (by rw[e7];exact q1);rw[e1]at r1;cases r1;rw[e4]at r2;cases r2;rw[q2]at r3;cases r3;subst r4;refine⟨me.val,?_,r5⟩;simp only[execOp,hop,e2,hkv,Instr.lookup,Sem.run_bind,run_underlying hu,Result.andThen_ok,BP e4,hck,q5,Sem.run_pure];rfl;cases h;cases h;cases h;rename_i kt vt j b es hu hm;split at h;rename_i b' cs' hk hz;split at h;rename_i key fr hb hx;have hb0:=hb;have hk0:=hk;simp only[Aba,Abb,AcQ]at hb;simp only[Abb]at hk;obtain⟨hb,hag⟩:=hb;subst hb;obtain⟨hty',hcs',i,z,hi0,hz0,hok,hsz,hza⟩:=BR hz;subst hcs';have hku:=E1 hk
 have main:∀ (w:World) (F:Nat→Prop) (m:Mp) (ρc:Operand→Value) (o:Oper),o.op = .lookup T mm x ok→HI w F m H fz→(∀ x,Rep w F m H (ρ x) (ρc x)) →
   ∃ u,(execOp ρc o).run P w = .ok (.value (if ok then .tuple #[u,.bool (AO (α:=Int) es key).isSome]else u)) w∧BT w F b' ((AO (α:=Int) es key).getD b'.zero) u:=by
  intro w F m ρc o hop hi hr
  have hrm:=hr mm
  rw[hm]at hrm
  have hrm:Dat w F (.mapi j b') es [ρc mm]:=hrm
  obtain⟨bb,ms,clock,e2,e3,e4,e5⟩:=hrm
  simp only[AcY,AdQ]at e2
  have hkv:ρc x = .int j key:=K3 (Cl hi hx (hr x))
  have hck:=(LF hku).check w ms.isEmpty key
  have hck:(Instr.checkKey ms.isEmpty 10000 kt (.int j key)).run P w = .ok () w:=hck
  rcases ANr (w:=w) hku key e5 with⟨q1,q2⟩|⟨y,n,me,q1,q2,q4⟩
  ·refine⟨z,?_,by rw[q1];exact JL hok hza⟩
   rw[q1]
   simp only[execOp,hop,e2,hkv,Instr.lookup,Sem.run_bind,run_underlying hu,Result.andThen_ok,BP e4,hck,q2,A5 hi0 hz0,Sem.run_pure]
   cases ok<;>rfl
  ·refine⟨me.val,?_,by rw[q1];unfold BT;rw[hag];simpa using q4⟩
   rw[q1]
   simp only[execOp,hop,e2,hkv,Instr.lookup,Sem.run_bind,run_underlying hu,Result.andThen_ok,BP e4,hck,q2,Sem.run_pure]
   cases ok<;>rfl
 split at h;refine⟨_,_,h,fun R' k'=>by simp only[evalOp,C9,hu,hm,hk0,hz,Aby,hag,Bool.not_false,Aca,hx],AL fun w F m ρc o hop hty hi hr => ?_⟩;obtain⟨u,h1,h2⟩:=main w F m ρc o hop hi hr;refine⟨_,h1,?_⟩;unfold Rep;refine⟨_,rfl,?_⟩;unfold AP;refine⟨u,_,rfl,by unfold Rep;exact h2,JA (A0 _)⟩;refine⟨_,_,h,fun R' k'=>by simp only[evalOp,C9,hu,hm,hk0,hz,Aby,hag,Bool.not_false,Aca,hx],AL fun w F m ρc o hop hty hi hr => ?_⟩;obtain⟨u,h1,h2⟩:=main w F m ρc o hop hi hr;exact⟨u,h1,by unfold Rep;exact h2⟩;cases h;cases h;cases h
theorem Cb{w:World}{r:Nat}{ms ms':Array MapEntry}{clock clock':Nat}(h:w.heap[r]? = some (.map ms clock)):
  (setObj r (.map ms' clock')).run P w = .ok () { w with heap:=w.heap.setIfInBounds r (.map ms' clock') }:=by simp[setObj,Sem.run,h]
theorem Eg.push{ms:Array MapEntry}{clock:Nat}(h:Eg ms clock)(key val:Value):Eg (ms.push { key:=key,val:=val,born:=clock }) (clock+1):=by obtain⟨h1,h2⟩:=h;refine⟨by rw[Array.size_push,h1],fun i e he => ?_⟩;rw[Array.getElem?_push]at he;split at he;cases he;show clock=_;omega;exact h2 i e he
theorem Eg.modify{ms:Array MapEntry}{clock:Nat}(h:Eg ms clock)(n:Nat){f:MapEntry→MapEntry}(hf:∀ e,(f e).born=e.born):Eg (ms.modify n f) clock:=by obtain⟨h1,h2⟩:=h;refine⟨by rw[Array.size_modify,h1],fun i e he => ?_⟩;rw[Array.getElem?_modify]at he;split at he;rw[Abc]at he;obtain⟨e',he',rfl⟩:=he;rw[hf];exact h2 i e' he';exact h2 i e he
theorem OA(T:TypeId)(mm x y:Operand):Claim P E (.mapUpdate T mm x y):=by
 intro R ty ρ H fz slot k r h
 simp only[evalOp,Dv]at h
 split at h
 ·rename_i kt vt id hu hm
  split at h
  ·rename_i ka b es ho
   split at h
   ·rename_i key fr0 val fr hkt hx hy
    refine⟨_,_,h,fun R' k'=>by simp only[evalOp,Dv,hu,hm,ho,hkt,hx,hy],DO fun w F m ρc o hop hty hi hr => ?_⟩
    have hkt':=hkt
    simp only[Abb]at hkt'
    have hK:=LG hkt'
    have hgf:=Aa.freeze hi fr
    have hrm:=hr mm
    rw[hm]at hrm
    unfold Rep at hrm
    rw[ho]at hrm
    obtain⟨bb,c,e1,e2⟩:=hrm
    obtain⟨b2,c',ms,clock,e3,e4,e5,e6⟩:=hgf.2.obj id _ ho
    rw[e1]at e3;cases e3
    have hkv:ρc x=Br ka key:=(hK.rep _ _ _ _).1 (Cl hi hx (hr x))
    have hvd:=Cl hi hy (hr y)
    have hck:=hK.check w false key
    have hst:=hK.stays w key
    have hlt:=Am e4
    have main:∀ (ms':Array MapEntry) (clock':Nat),GX w (Ci F m H fr) ka b (Ao (α:=ka.den) es key val) ms'.toList→Eg ms' clock' →
      Aa w (Ci F m H fr) m H (AS fr fz) { w with heap:=w.heap.setIfInBounds bb (.map ms' clock') } (Ci F m H fr) m (H.set id (.map ka b (Ao (α:=ka.den) es key val))) (AS fr fz):=by
     intro ms' clock' he hbo
     refine Aa.set hgf.2 (Ds ho) e1 ho trivial rfl rfl rfl (by simp) (fun k hk=>by simp[Ab9 hk]) fun _ => ?_
     refine⟨bb,c,ms',clock',e1,by simp[hlt],?_,hbo⟩
     refine he.mono (fun a ha => ?_) (fun _ h=>h)
     have:a≠bb:=by rintro rfl;exact hgf.2.off id _ c (Ds ho) e1 ha
     simp[Ab9 this]
    obtain⟨s1,s2⟩:=hK.store key val _ hvd e5
    rcases hK.find w _ _ key es ms.toList e5 with⟨q1,_,q2⟩|⟨y',n,me,q1,_,q2,q3,q4,q5⟩
    ·have hg:=main (ms.push { key:=Br ka key,val:=ρc y,born:=clock }) (clock+1) (by rw[Ac4];exact s1 clock q1) (e6.push _ _)
     refine⟨_,_,m,?_,hgf.trans hg⟩
     simp only[execOp,hop,e2,hkv,Instr.mapUpdate,Sem.run_bind,run_underlying hu,Result.andThen_ok,BP e4,hck,q2,Cb e4,Sem.run_pure]
    ·have hg:=main (ms.modify n fun e=>{ e with key:=Br ka key,val:=ρc y }) clock (by rw[Acq];exact s2 n q1) (e6.modify _ fun _=>rfl)
     refine⟨_,_,m,?_,hgf.trans hg⟩
     have hgetn:ms[n]? = some me:=by simpa using q3
     have hold:(((ms[n]?).map (·.key)).getD (Br ka key))=Br ka key:=by rw[hgetn];exact q5
     simp only[execOp,hop,e2,hkv,Instr.mapUpdate,Sem.run_bind,run_underlying hu,Result.andThen_ok,BP e4,hck,q2,hold,hst,Cb e4,Sem.run_pure]
   ·cases h
  ·rename_i j ks e t xs ver i' ho
   split at h
   ·rename_i key fr id' i ver' hk hx hy
    split at h
    ·rename_i hid
     split at h
     ·rename_i hii
      refine⟨_,_,h,fun R' k'=>by simp only[evalOp,Dv,hu,hm,ho,hk,hx,hy,hid,hii],DO fun w F m ρc o hop hty hi hr => ?_⟩
      simp only[Aba,Abb]at hk hid
      obtain⟨hk,hun⟩:=hk
      obtain⟨rfl,rfl⟩:=hid
      simp only[Aba,Ea,AcW]at hii
      obtain⟨h1,h2⟩:=hii
      have h1:i=i':=by omega
      have h2:Fa ks key=i':=by omega
      subst h1
      have hun':fz.getD id false=false:=by unfold AW at hun;simpa using hun
      have hrm:=hr mm
      rw[hm]at hrm
      unfold Rep at hrm
      rw[ho]at hrm
      obtain⟨bb,c,e1,e2⟩:=hrm
      obtain⟨_,e3⟩:=hi.obj id _ ho
      rw[e1]at e3
      obtain⟨ms,clock,e4,e5,e6,e7,e8⟩:=e3
      have hkv:ρc x = .int j key:=K3 (Cl hi hx (hr x))
      have hku:=E1 hk
      have hck:(Instr.checkKey false 10000 kt (.int j key)).run P w = .ok () w:=(LF hku).check w false key
      have hst:(Instr.keyThatStays (.int j key) (.int j key)).run P w = .ok (.int j key) w:=(LF hku).stays w key
      have hry:=hr y
      rw[hy]at hry
      unfold Rep at hry
      rw[ho]at hry
      obtain⟨hone,_,h7⟩:=hry
      have h7:=h7 rfl
      have hlt:=Am e4
      have hmk:ms.toList.length=ks.length:=by have:=Ab8 List.length e6;simpa using this
      obtain⟨ys,hys,hrep⟩:∃ ys:List t.den,xs[i]? = some ys∧At (some (.arr 0 t ys)) (m (.r id i)) (ρc y):=by
       rcases h7 with h7|⟨_,h8,h9⟩
       ·exact h7
       ·exfalso
        have:=e8 i rfl
        omega
      have main:∀ (ms':Array MapEntry) (clock':Nat),Eg ms' clock'→ms'.toList.map (·.key)=(QD ks i key).map (Value.int j)→xs.length=(QD ks i key).length→(∃ en,ms'.toList[i]? = some en∧en.val=ρc y)→(∀ k' en,k'≠i→ms.toList[k']? = some en→∃ en',ms'.toList[k']? = some en'∧en'.val=en.val) →
        Aa w F m H fz { w with heap:=w.heap.setIfInBounds bb (.map ms' clock') } F m (H.set id (.rows (.map j (QD ks i key)) e t xs ver none)) fz:=by
       intro ms' clock' hbo hks hxl hat hoth
       refine Aa.AbC hi ho hun' hys rfl e1 hrep rfl rfl rfl (by simp) (fun k hk=>by simp[Ab9 hk]) (fun _=>⟨⟨ms',clock',by simp[hlt],hbo,hks,.inl hxl,fun k h=>by cases h⟩,?_⟩) ?_
       ·obtain⟨en,q1,q2⟩:=hat
        exact⟨ms',clock',en,by simp[hlt],q1,q2⟩
       ·rintro k' v hne ⟨ms2,clock2,en,q1,q2,q3⟩
        rw[e4]at q1;cases q1
        obtain⟨en',q4,q5⟩:=hoth k' en hne q2
        exact⟨ms',clock',en',by simp[hlt],q4,q5.trans q3⟩
      rcases Te (w:=w) hku key e6 with⟨q1,q2⟩|⟨me,q1,q2,q3,q4,q5⟩
      ·have hxl:xs.length=ks.length+1:=by
        have:=CD hys
        rcases e7 with e7|⟨e7,e8⟩<;>omega
       have hdp:QD ks i key=ks++[key]:=by unfold QD;rw[Acg (by omega)]
       have hg:=main (ms.push { key:=.int j key,val:=ρc y,born:=clock }) (clock+1) (e5.push _ _) (by rw[hdp,Ac4,List.map_append,List.map_append,e6];rfl) (by rw[hdp,Abl];exact hxl)
        ⟨_,by rw[Ac4,Abs (by omega),show i-ms.toList.length=0 from by omega];rfl,rfl⟩
        (fun k' en hne hk'=>⟨en,by rw[Ac4,Abq (by
         rcases Abv k' ms.toList.length with h'|h'
         ·exact h'
         ·rw[Abo h']at hk';cases hk')];exact hk',rfl⟩)
       refine⟨_,F,m,?_,hg⟩
       simp only[execOp,hop,e2,hkv,Instr.mapUpdate,Sem.run_bind,run_underlying hu,Result.andThen_ok,BP e4,hck,q2,Cb e4,Sem.run_pure]
      ·have hilt:i<ks.length:=by omega
       have hxl:xs.length=ks.length:=by
        rcases e7 with e7|⟨e7,e8⟩
        ·exact e7
        ·cases e7;omega
       have hdp:QD ks i key=ks:=by
        unfold QD
        rw[AcO hilt]
        apply AdK
        intro n
        by_cases hn:n=i
        ·subst hn;rw[Ace hilt,← h2,q4]
        ·rw[Acm (Ab9 hn)]
       rw[h2]at q2 q5
       have hgetn:ms[i]? = some me:=by simpa using q2
       have hg:=main (ms.modify i fun e=>{ e with key:=.int j key,val:=ρc y }) clock (e5.modify _ fun _=>rfl) (by
         rw[hdp,← e6,Acq]
         apply AdK
         intro n
         rw[Ab6,Ab6,List.getElem?_modify]
         by_cases hn:i=n
         ·subst hn;rw[q2];simp[q3]
         ·simp[hn]) (by rw[hdp];exact hxl)
        ⟨_,by rw[Acq,List.getElem?_modify,q2];simp only[if_true];rfl,rfl⟩
        (fun k' en hne hk'=>⟨en,by rw[Acq,List.getElem?_modify,hk'];simp[Ab9 hne],rfl⟩)
       refine⟨_,F,m,?_,hg⟩
       have hold:(((ms[i]?).map (·.key)).getD (.int j key)) = .int j key:=by rw[hgetn];exact q3
       simp only[execOp,hop,e2,hkv,Instr.mapUpdate,Sem.run_bind,run_underlying hu,Result.andThen_ok,BP e4,hck,q5,hold,hst,Cb e4,Sem.run_pure]
     ·cases h
    ·cases h
   ·cases h
  ·cases h
 ·cases h
theorem XV(T:TypeId)(mm x y:Operand):Claim P E (.insert T mm x y):=by
 intro R ty ρ H fz slot k r h;simp only[evalOp,Iu]at h;split at h;rename_i kt vt id hu hm;split at h;rename_i ka b es ho;split at h;rename_i key fr0 val fr hkt hx hy;refine⟨_,_,h,fun R' k'=>by simp only[evalOp,Iu,hu,hm,ho,hkt,hx,hy],DO fun w F m ρc o hop hty hi hr => ?_⟩;have hkt':=hkt;simp only[Abb]at hkt';have hK:=LG hkt';have hgf:=Aa.freeze hi fr;have hrm:=hr mm;rw[hm]at hrm;unfold Rep at hrm;rw[ho]at hrm;obtain⟨bb,c,e1,e2⟩:=hrm;obtain⟨b2,c',ms,clock,e3,e4,e5,e6⟩:=hgf.2.obj id _ ho;rw[e1]at e3;cases e3;have hkv:ρc x=Br ka key:=(hK.rep _ _ _ _).1 (Cl hi hx (hr x));have hvd:=Cl hi hy (hr y);have hck:=hK.check w false key;have hst:=hK.stays w key;have hlt:=Am e4
 have main:∀ (ms':Array MapEntry) (clock':Nat),GX w (Ci F m H fr) ka b (Ao (α:=ka.den) es key val) ms'.toList→Eg ms' clock' →
   Aa w (Ci F m H fr) m H (AS fr fz) { w with heap:=w.heap.setIfInBounds bb (.map ms' clock') } (Ci F m H fr) m (H.set id (.map ka b (Ao (α:=ka.den) es key val))) (AS fr fz):=by
  intro ms' clock' he hbo
  refine Aa.set hgf.2 (Ds ho) e1 ho trivial rfl rfl rfl (by simp) (fun k hk=>by simp[Ab9 hk]) fun _ => ?_
  refine⟨bb,c,ms',clock',e1,by simp[hlt],?_,hbo⟩
  refine he.mono (fun a ha => ?_) (fun _ h=>h)
  have:a≠bb:=by rintro rfl;exact hgf.2.off id _ c (Ds ho) e1 ha
  simp[Ab9 this]
 obtain⟨s1,s2⟩:=hK.store key val _ hvd e5;rcases hK.find w _ _ key es ms.toList e5 with⟨q1,_,q2⟩|⟨y',n,me,q1,_,q2,q3,q4,q5⟩
 have hg:=main (ms.push { key:=Br ka key,val:=ρc y,born:=clock }) (clock+1) (by rw[Ac4];exact s1 clock q1) (e6.push _ _);refine⟨_,_,m,?_,hgf.trans hg⟩;simp only[execOp,hop,e2,hkv,Instr.mapUpdate,Sem.run_bind,run_underlying hu,Result.andThen_ok,BP e4,hck,q2,Cb e4,Sem.run_pure];have hg:=main (ms.modify n fun e=>{ e with key:=Br ka key,val:=ρc y }) clock (by rw[Acq];exact s2 n q1) (e6.modify _ fun _=>rfl);refine⟨_,_,m,?_,hgf.trans hg⟩;have hgetn:ms[n]? = some me:=by simpa using q3
 have hold:(((ms[n]?).map (·.key)).getD (Br ka key))=Br ka key:=by rw[hgetn];exact q5
 simp only[execOp,hop,e2,hkv,Instr.mapUpdate,Sem.run_bind,run_underlying hu,Result.andThen_ok,BP e4,hck,q2,hold,hst,Cb e4,Sem.run_pure];cases h;cases h;cases h
theorem Wf{ms:Array MapEntry}{n:Nat}{me:MapEntry}(h:ms[n]? = some me){f g:MapEntry→MapEntry}(he:f me=g me):ms.modify n f=ms.modify n g:=by apply Array.ext_getElem?;intro i;rw[Array.getElem?_modify,Array.getElem?_modify];split;rename_i hi;subst hi;rw[h,Aco,Aco,he];rfl
theorem QO(T:TypeId)(mm x:Operand):Claim P E (.mapEntry T mm x):=by
 intro R ty ρ H fz slot k r h;simp only[evalOp,Eb]at h;split at h;rename_i kt vt id hu hm;split at h;rename_i ka b es ho;split at h;rename_i b' cs' key fr hkt hz hx;split at h;rename_i hb;simp only[Abb]at hb;subst hb;refine⟨_,_,h,fun R' k'=>by simp only[evalOp,Eb,hu,hm,ho,hkt,hz,hx,Aby],Aq fun w F m ρc o hop hty hi hr => ?_⟩;have hkt':=hkt;simp only[Abb]at hkt';have hK:=LG hkt';obtain⟨hty',hcs',i,z,hi0,hz0,hok,hsz,hza⟩:=BR hz;subst hcs';have hrm:=hr mm;rw[hm]at hrm;unfold Rep at hrm;rw[ho]at hrm;obtain⟨bb,c,e1,e2⟩:=hrm;obtain⟨b2,c',ms,clock,e3,e4,e5,e6⟩:=hi.obj id _ ho;rw[e1]at e3;cases e3;have hkv:ρc x=Br ka key:=(hK.rep _ _ _ _).1 (Cl hi hx (hr x));have hck:=hK.check w false key;have hst:=hK.stays w key;have hlt:=Am e4
 have main:∀ (val:b'.den) (ms':Array MapEntry) (clock':Nat),GX w F ka b' (Ao (α:=ka.den) es key val) ms'.toList→Eg ms' clock' →
   Aa w F m H fz { w with heap:=w.heap.setIfInBounds bb (.map ms' clock') } F m (H.set id (.map ka b' (Ao (α:=ka.den) es key val))) fz:=by
  intro val ms' clock' he hbo
  refine Aa.set hi (Ds ho) e1 ho trivial rfl rfl rfl (by simp) (fun k hk=>by simp[Ab9 hk]) fun _ => ?_
  refine⟨bb,c,ms',clock',e1,by simp[hlt],?_,hbo⟩
  refine he.mono (fun a ha => ?_) (fun _ h=>h)
  have:a≠bb:=by rintro rfl;exact hi.off id _ c (Ds ho) e1 ha
  simp[Ab9 this]
 have tup:∀ (d:b'.den) (u:Value) (n:Nat),BT w F b' d u→Rep w F m H (.tup [.data b' d,.data (.int .i64) (n:Int)]) (.tuple #[u,goInt (n:Int)]):=by intro d u n hd;unfold Rep;refine⟨_,rfl,?_⟩;unfold AP;exact⟨u,_,rfl,by unfold Rep;exact hd,JA (Aj _ _)⟩
 have hlen:=P4 e5;rcases hK.find w _ _ key es ms.toList e5 with⟨q1,q0,q2⟩|⟨y',n,me,q1,q0,q2,q3,q4,q5⟩
 obtain⟨s1,_⟩:=hK.store key b'.zero z (JL hok hza) e5;have hg:=main b'.zero (ms.push { key:=Br ka key,val:=z,born:=clock }) (clock+1) (by rw[Ac4];exact s1 clock q1) (e6.push _ _);have hp:WQ (α:=ka.den) es key=(clock:Int):=by unfold WQ;rw[q1,e6.1];rw[Abe]at hlen;rw[Option.getD_none,hlen]
 rw[q0,Option.getD_none,hp];refine⟨_,_,F,m,?_,hg,hg.1.rep hi (tup b'.zero z clock (JL hok hza))⟩;simp only[execOp,hop,e2,hkv,Instr.mapEntry,Sem.run_bind,run_underlying hu,Result.andThen_ok,BP e4,hck,q2,A5 hi0 hz0,Cb e4,Sem.run_pure];obtain⟨_,s2⟩:=hK.store key y' me.val q4 e5;have hgetn:ms[n]? = some me:=by simpa using q3
 have hmod:(ms.modify n fun e=>{ e with key:=Br ka key,val:=me.val })=ms.modify n fun e=>{ e with key:=Br ka key }:=Wf hgetn rfl;have hg:=main y' (ms.modify n fun e=>{ e with key:=Br ka key,val:=me.val }) clock (by rw[Acq];exact s2 n q1) (e6.modify _ fun _=>rfl);rw[hmod]at hg;have hp:WQ (α:=ka.den) es key=(n:Int):=by unfold WQ;rw[q1,AcV]
 rw[q0,AcV,hp];have hold:(((ms[n]?).map (·.key)).getD (Br ka key))=Br ka key:=by rw[hgetn];exact q5
 have hbn:(((ms[n]?).map fun x=>(x.born:Int)).getD 0)=(n:Int):=by rw[hgetn];show(me.born:Int)=n;rw[e6.2 n me hgetn]
 refine⟨_,_,F,m,?_,hg,hg.1.rep hi (tup y' me.val n q4)⟩;simp only[execOp,hop,e2,hkv,Instr.mapEntry,Sem.run_bind,run_underlying hu,Result.andThen_ok,BP e4,hck,q2,hold,hst,hbn,Cb e4,Sem.run_pure];cases h;cases h;cases h;cases h
theorem ATs{w:World}{F:Nat→Prop}{a b:Ty}(val:b.den)(v:Value)(hv:BT w F b val v):∀ {es:List (a.den×b.den)} {ms:List MapEntry} (n:Nat),GX w F a b es ms→GX w F a b (es.modify n fun e=>(e.1,val)) (ms.modify n fun e=>{ e with val:=v }):=by
 intro es;induction es with
  |nil=>rintro ms n rfl;cases n<;>rfl
  |cons e es ih=>
   rintro ms n ⟨me,ms',rfl,⟨h1,h2⟩,h3⟩;cases n with
    |zero=>exact⟨_,ms',rfl,⟨h1,hv⟩,h3⟩
    |succ n=>exact⟨me,_,rfl,⟨h1,h2⟩,ih n h3⟩
theorem ANs{ms:Array MapEntry}{clock:Nat}(h:Eg ms clock){i:Nat}(hi:i<ms.size):ms.findIdx? (fun e=>(e.born:Int)==(i:Int))=some i:=by rw[Array.findIdx?_eq_some_iff_getElem];refine⟨hi,?_,fun j hj => ?_⟩;have:=h.2 i ms[i] (by simp[hi]);simp[this];have:=h.2 j ms[j] (by simp);simp[this];omega
theorem Mn(T:TypeId)(mm s y:Operand):Claim P E (.entryStore T mm s y):=by
 intro R ty ρ H fz slot k r h;simp only[evalOp,EF]at h;split at h
 ·rename_i id i0 hm hs;split at h
  ·rename_i ka b es ho;split at h
   ·rename_i val fr hy;split at h;rotate_left;cases h;rename_i hc;refine⟨_,_,h,fun R' k'=>by simp only[evalOp,EF,hm,hs,ho,hy,hc],DO fun w F m ρc o hop hty hi hr => ?_⟩;have hgf:=Aa.freeze hi fr;have hrm:=hr mm;rw[hm]at hrm;unfold Rep at hrm;rw[ho]at hrm;obtain⟨bb,c,e1,e2⟩:=hrm;obtain⟨b2,c',ms,clock,e3,e4,e5,e6⟩:=hgf.2.obj id _ ho;rw[e1]at e3;cases e3;have hrs:=hr s;rw[hs]at hrs;unfold Rep at hrs;have hsv:=K3 hrs;have hvd:=Cl hi hy (hr y);have hlt:=Am e4;have hlen:=P4 e5;rw[Abe]at hlen;rw[Aba,Gy,GH,decide_eq_true_iff,decide_eq_true_iff]at hc;obtain⟨n,rfl⟩:=AcB hc.1;have hn:n<ms.size:=by have:=hc.2;unfold AJ at this;omega
    have hfi:=ANs e6 hn;have hg:Aa w (Ci F m H fr) m H (AS fr fz) { w with heap:=w.heap.setIfInBounds bb (.map (ms.modify n fun e=>{ e with val:=ρc y }) clock) } (Ci F m H fr) m (H.set id (.map ka b (ASd es (n:Int) val))) (AS fr fz):=by
     refine Aa.set hgf.2 (Ds ho) e1 ho trivial rfl rfl rfl (by simp) (fun k hk=>by simp[Ab9 hk]) fun _ => ?_;refine⟨bb,c,ms.modify n fun e=>{ e with val:=ρc y },clock,e1,by simp[hlt],?_,e6.modify n fun _=>rfl⟩;have he:GX w (Ci F m H fr) ka b (es.modify n fun e=>(e.1,val)) (ms.modify n fun e=>{ e with val:=ρc y }).toList:=by rw[Acq];exact ATs val (ρc y) hvd n e5
     unfold ASd;rw[AdJ];refine he.mono (fun a ha => ?_) (fun _ h=>h);have:a≠bb:=by rintro rfl;exact hgf.2.off id _ c (Ds ho) e1 ha
     simp[Ab9 this]
    refine⟨_,_,m,?_,hgf.trans hg⟩;simp only[execOp,hop,e2,hsv,Instr.entryStore,Sem.run_bind,Result.andThen_ok,BP e4,asInt,asIntOf,Sem.run_pure,hfi,Cb e4]
   cases h
  cases h
 cases h
theorem DP(hE:∀ g,Ad P g (E.spec g))(o:Op):Claim P E o:=by
 cases o with
  |move x=>exact AHE x
  |assign x=>exact XW x
  |pick c a b=>exact AHD c a b
  |alloc T=>exact ABr T
  |box T x=>exact AOf T x
  |build T parts=>exact ABp T parts
  |buildSlice T len parts=>exact Mo T len parts
  |load T x=>exact AHF T x
  |store T x y=>exact ABl T x y
  |nilCheck x=>exact QN x
  |binOp op T x y T'=>exact ABq op T x y T'
  |unOp op T x=>exact AHC op T x
  |convert S T x=>exact R5 S T x
  |makeFunc fn first cs=>exact QP fn first cs
  |makeMap T r=>exact R3 T r
  |makeSlice T x y=>exact OB T x y
  |slice T x lo up mx=>
   cases mx with
    |none=>exact Mm T x lo up
    |some mx=>exact N9 T x lo up mx
  |fieldAddr T x f=>exact OD T x f
  |field T x f=>exact ABn T x f
  |indexAddr T x y=>exact OC T x y
  |index T x y=>exact ABm T x y
  |lookup T m x ok=>exact XU T m x ok
  |mapUpdate T m x y=>exact OA T m x y
  |insert T m x y=>exact XV T m x y
  |mapEntry T m x=>exact QO T m x
  |entryStore T m s y=>exact Mn T m s y
  |extract x i=>exact R4 x i
  |makeInterface T x=>exact Jw T x
  |typeAssert x T T' ok=>exact Ml x T T' ok
  |call c=>
   obtain⟨callee,args,ts⟩:=c;cases callee with
    |value f=>exact AHG hE f args ts
    |invoke r n=>intro R ty ρ H fz slot k r h;simp[evalOp,G4]at h
    |builtin b=>
     cases b with
      |len=>exact AOd args ts
      |append=>exact XX args ts
      |cap=>exact AOe args ts
      |min=>exact AOb args ts
      |max=>exact AOc args ts
      |clear=>exact ABo args ts
      |_=>intro R ty ρ H fz slot k r h;simp[evalOp,Fh]at h
  |_=>intro R ty ρ H fz slot k r h;simp[evalOp,Fh]at h
end
end Go.Pev
end
section
namespace Go.Pev
open Go.RowKit
class DfI where
 d:List Deferred
instance noDf:DfI:=⟨[]⟩
structure SI[DfI](w:World)(F:Nat→Prop)(m:Mp)(st:St)(a:Act):Prop where
 tmps:∀ t,Rep w F m st.heap (st.tmps.f t) (a.tmps.getD t undef)
 size:st.tmps.n=a.tmps.size
 heap:HI w F m st.heap st.frz
 defers:a.defers=DfI.d
def AYy[DfI]{R:Type}(r:R)(k:St→Option R)(w:World)(F:Nat→Prop)(m:Mp)(H:List Ob)(fz:List Bool)(a':Act)(w':World):Prop:=
 ∃ st' F' m',k st'=some r∧SI w' F' m' st' a'∧Ext w F m H fz w' F' m' st'.heap st'.frz
section
variable [DfI] {P:Program} {E:Env} {R:Type} {r:R}
theorem SI.put{w:World}{F:Nat→Prop}{m:Mp}{st:St}{a:Act}(h:SI w F m st a){v:AV}{u:Value}(hr:Rep w F m st.heap v u)(d:Option Tmp):SI w F m (st.put d v) (a.put d u):=by
 cases d with
  |none=>exact h
  |some d=>refine⟨fun t => ?_,by simp[St.put,Tm.set,Act.put,h.size],h.heap,h.defers⟩;simp only[St.put,Act.put,Tm.M4];have:=h.tmps t;rw[Abm]at this ⊢;by_cases htd:t=d;subst htd;by_cases hlt:t<st.tmps.n;have hlt':t<a.tmps.size:=h.size▸hlt;simp[hlt,hlt',hr];have hlt':¬ t<a.tmps.size:=h.size▸hlt;simpa [Array.setIfInBounds,hlt,hlt']using this;rw[AdC (Ab9 htd)];simpa [htd]using this
theorem SI.go{w w':World}{F F':Nat→Prop}{m m':Mp}{st:St}{a:Act}(h:SI w F m st a){e:Eff}(hg:Aa w F m st.heap st.frz w' F' m' (Bj e st.heap) (Dc e st.frz)):SI w' F' m' (st.app e) a:=
 ⟨fun t=>hg.1.rep h.heap (h.tmps t),h.size,hg.2,h.defers⟩
theorem SI.lit{w:World}{F:Nat→Prop}{m:Mp}{st:St}{a:Act}(h:SI w F m st a){d:Nat}{b:Bool}(hd:st.tmps.f d = .data .bool b):SI w F m { st with tmps:=st.tmps.set d (.data .bool b) } a:=by rw[Tm.IW hd];exact h
theorem KG{w:World}{F:Nat→Prop}{m:Mp}{st:St}{a:Act}(h:SI w F m st a){ops:Array Oper}{j d:Nat}(hj:(ops.toList[j]?).bind (·.dst)=some d){b:Bool}(hd:st.tmps.f d = .data .bool b):
  yielded ops a.tmps j=some b:=by
 have hr:=h.tmps d;rw[hd]at hr;have hb:=CU hr;have hlt':d<a.tmps.size:=by rcases Abv d a.tmps.size with h'|h';exact h';rw[Abm,AdG h']at hb;cases hb
 rw[Abm,Abw hlt']at hb;simp only[AcV]at hb;have hj':(ops[j]?).bind (·.dst)=some d:=by simpa using hj
 unfold yielded;rw[hj'];simp[Abw hlt',hb]
theorem K0{w:World}{F:Nat→Prop}{m:Mp}{H:List Ob}:Rep w F m H A6 undef:=by unfold A6 Rep;exact⟨#[],rfl,by unfold AP;rfl⟩
theorem Kp{w:World}{F:Nat→Prop}{m:Mp}{st:St}{a:Act}(h:SI w F m st a){ops:Array Oper}{j d:Nat}(hj:(ops.toList[j]?).bind (·.dst)=some d)(hd:st.tmps.f d = .tup []):
  yielded ops a.tmps j=none:=by
 have hr:=h.tmps d;rw[hd]at hr;have hj':(ops[j]?).bind (·.dst)=some d:=by simpa using hj
 unfold yielded;rw[hj'];unfold Rep at hr;obtain⟨us,e,_⟩:=hr;rcases Abv d a.tmps.size with hlt'|hge;rw[Abm,Abw hlt']at e;simp only[AcV]at e;simp[Abw hlt',e];simp[AdG hge]
theorem Kf{w:World}{F:Nat→Prop}{m:Mp}{st:St}{a:Act}(h:SI w F m st a){ops:Array Oper}{o:Oper}{yes no:St→Option R}(hg:guarded R ops.toList o.guard st yes no=some r):
  ∃ st',SI w F m st' a∧st'.heap=st.heap∧st'.frz=st.frz∧((Region.wanted o (yielded ops a.tmps)=true∧yes st'=some r)∨(Region.wanted o (yielded ops a.tmps)=false∧no st'=some r)):=by unfold guarded at hg;split at hg;rename_i hgd;exact⟨st,h,rfl,rfl,.inl ⟨by simp[Region.wanted,hgd],hg⟩⟩;rename_i j want hgd;split at hg;cases hg;rename_i d hj;split at hg;rename_i b hd;have hy:=KG h hj hd;split at hg;split at hg;exact⟨_,h.lit hd,rfl,rfl,.inl ⟨by simp[Region.wanted,hgd,hy],hg⟩⟩;exact⟨_,h.lit hd,rfl,rfl,.inr ⟨by simp[Region.wanted,hgd,hy],hg⟩⟩;split at hg;exact⟨_,h.lit hd,rfl,rfl,.inr ⟨by simp[Region.wanted,hgd,hy],hg⟩⟩;exact⟨_,h.lit hd,rfl,rfl,.inl ⟨by simp[Region.wanted,hgd,hy],hg⟩⟩;rename_i hd;exact⟨st,h,rfl,rfl,.inr ⟨by simp[Region.wanted,hgd,Kp h hj hd],hg⟩⟩;cases hg
theorem AMX(hE:∀ g,Ad P g (E.spec g)){ops:Array Oper}{Q:Exit→Act→World→Prop}{k:St→Option R}:∀ (rest pre:List Oper) (slot:Nat) (st:St) (w:World) (F:Nat→Prop) (m:Mp) (a:Act),ops.toList=pre++rest →
  D4 P E R ops.toList rest slot st k=some r→SI w F m st a→(∀ a' w',AYy r k w F m st.heap st.frz a' w'→Q .normal a' w')→wpOps P ops Q (List.range' pre.length rest.length) a w:=by
 intro rest;induction rest with
  |nil=>intro pre slot st w F m a _ h hs hq;exact hq a w ⟨st,F,m,h,hs,Ext.refl ..⟩
  |cons o rest ih=>
   intro pre slot st w F m a hops h hs hq;simp only[D4]at h;have hget:ops[pre.length]? = some o:=by rw[← AcG,hops];simp
   have hops':ops.toList=(pre++[o])++rest:=by rw[hops];simp
   have hlen:(pre++[o]).length=pre.length+1:=by simp
   rw[Abz,Acs];simp only[wpOps,hget];obtain⟨st',hs',e1,e2,hh⟩:=Kf hs h;rcases hh with⟨hw,hy⟩|⟨hw,hn⟩
   rw[AcO hw];left;obtain⟨v,e,h1,_,h3⟩:=DP hE o.op R _ _ _ _ _ _ _ hy;refine h3 w F m a o _ Q rfl rfl hs'.heap (fun x=>Db hs'.tmps x) fun u w' F' m' hg hr => ?_;have hs2:=(hs'.go hg).put hr o.dst;have:=ih (pre++[o]) _ _ w' F' m' (a.put o.dst u) hops' h1 hs2 fun a' w'' ⟨st2,F2,m2,q1,q2,q3⟩=>hq a' w'' ⟨st2,F2,m2,q1,q2,by
    have hx:=hg.1;rw[e1,e2]at hx;refine hx.trans ?_;have:((st'.app e).put o.dst v).heap=Bj e st.heap∧((st'.app e).put o.dst v).frz=Dc e st.frz:=by cases o.dst<;>simp[St.put,St.app,e1,e2]
    rw[this.1,this.2]at q3;exact q3⟩
   rw[hlen]at this;exact this;rw[Acg (by simp[hw])];have hs2:SI w F m (st'.put o.dst A6) (a.put o.dst undef):=hs'.put K0 o.dst;have:=ih (pre++[o]) _ _ w F m (a.put o.dst undef) hops' hn hs2 fun a' w'' ⟨st2,F2,m2,q1,q2,q3⟩=>hq a' w'' ⟨st2,F2,m2,q1,q2,by
    have:(st'.put o.dst A6).heap=st.heap∧(st'.put o.dst A6).frz=st.frz:=by cases o.dst<;>simp[St.put,e1,e2]
    rw[this.1,this.2]at q3;exact q3⟩
   rw[hlen]at this;exact this
theorem HI.pad{w:World}{F:Nat→Prop}{m:Mp}{H:List Ob}{fz:List Bool}(hi:HI w F m H fz)(n:Nat):Aa w F m H fz w F m (H++List.replicate n .free) (fz++List.replicate n false):=by
 have hget:∀ i o,H[i]? = some o→(H++List.replicate n Ob.free)[i]? = some o:=fun i o h=>by rw[Abq (AY h)];exact h
 have hget':∀ i o,(H++List.replicate n Ob.free)[i]? = some o→H[i]? = some o∨o=Ob.free:=fun i o h=>by rcases Abv i H.length with hl|hl;rw[Abq hl]at h;exact .inl h;rw[Abs hl]at h;exact .inr (Ack (Abj h))
 have hfz:∀ i,(fz++List.replicate n false).getD i false=fz.getD i false:=fun i=>by
  rw[Abi,Abi];rcases Abv i fz.length with hl|hl;rw[Abq hl];rw[Abs hl,Abo hl];cases hx:(List.replicate n false)[i-fz.length]? with
   |none=>rfl
   |some b=>rw[Ack (Abj hx)];rfl
 have hown:∀ i:Ix,owned (H++List.replicate n .free) (fz++List.replicate n false) i→owned H fz i:=fun i ho=>by
  obtain⟨o,h1,h2,h3⟩:=Cf ho;rcases hget' i.id o h1 with h4|h4;have ho:=(CH (H:=H) (h1.trans h4.symm)).1 ho;cases i with
   |r i k=>simp only[owned]at *;split at ho;rw[hfz]at ho;exact ho;exact ho.elim
   |o i=>
    simp only[owned,BY]at *;rw[show H[i]? = some o from h4]at ho ⊢;cases o with
     |free=>exact absurd rfl h2
     |dead=>exact absurd rfl h3
     |box cs=>trivial
     |map a b es=>trivial
     |prs T t is=>trivial
     |rows T e t xs ver out=>simp only at ho ⊢;rw[hfz]at ho;exact ho
     |arr T t xs=>simp only at ho ⊢;rw[hfz]at ho;exact ho
  exact absurd h4 h2
 have hcomp:Bz H (H++List.replicate n .free) m m:=by
  intro i o ho hf;rcases Bz.refl H m i o ho hf with h|⟨hd,o',h1,h2,_⟩
  exact .inl (hget i _ h);exact .inr ⟨hd,o',hget i _ h1,h2,rfl,fun _ _ _=>rfl⟩
 refine⟨⟨rfl,rfl,rfl,Abd _,fun _ _ _=>rfl,fun _ h=>h,fun _ h=>.inl h,fun i b c h1 h2=>.inl ⟨i,c,hown i h1,h2⟩,hcomp⟩,⟨?_,?_,?_,?_,?_,?_,hi.lt,hi.glo,by simp[hi.len]⟩⟩;intro id o ho;rcases hget' id o ho with h|rfl;exact ObI.mono (fun _ _=>rfl) (fun _ h=>h) hcomp (fun _ _ _ _ _ _=>rfl) (hi.obj id o h);trivial;intro i;cases ho:H[i]? with
  |none=>intro T e t xs ver out h1;rcases hget' i _ h1 with h|h;rw[ho]at h;cases h;cases h
  |some o=>exact Bk.mono (fun _ _=>rfl) (fun _ h=>h) hcomp ((hget i o ho).trans ho.symm) (fun _ _=>rfl) (fun _ _ _ _ _ _ _=>rfl) (hi.row i)
 intro i T e t xs ver out hio hf x hx ht b c hm;rw[hfz]at hf;rcases hget' i _ hio with h|h;exact hi.rfz i T e t xs ver out h hf x hx ((CF (by rw[hx];exact hio.trans h.symm)).1 ht) b c hm;cases h;exact fun i k b c b' c' h1 h2=>hi.sep i k b c b' c' (hown i h1) (hown k h2);exact fun i b c h1=>hi.off i b c (hown i h1);intro i T t xs b c hio hf hmi;rw[hfz]at hf;rcases hget' i _ hio with h|h;exact hi.froz i T t xs b c h hf hmi;cases h
theorem SI.pad{w:World}{F:Nat→Prop}{m:Mp}{st:St}{a:Act}(h:SI w F m st a)(n:Nat):SI w F m (st.pad n) a∧Ext w F m st.heap st.frz w F m (st.pad n).heap (st.pad n).frz:=by have hg:=h.heap.pad n;exact⟨⟨fun t=>hg.1.rep h.heap (h.tmps t),h.size,hg.2,h.defers⟩,hg.1⟩
theorem WU(hE:∀ g,Ad P g (E.spec g)){id:Nat}{ops:Array Oper}{Q:Exit→Act→World→Prop}{k:St→Option R}{st:St}{w:World}{F:Nat→Prop}{m:Mp}{a:Act}(h:EW P E R ops.toList st k=some r)(hs:SI w F m st a)
  (hq:∀ a' w',AYy r k w F m st.heap st.frz a' w'→Q .normal a' w'):(Code.region id ops false).wp P Q a w:=by unfold EW at h;rw[J1]at h;obtain⟨h1,h2⟩:=hs.pad (Bn ops.toList);have:=AMX hE ops.toList [] _ _ w F m a (by simp) h h1 fun a' w' ⟨st',F',m',q1,q2,q3⟩=>hq a' w' ⟨st',F',m',q1,q2,h2.trans q3⟩;rw[AcF,Abe,← Ac8]at this;exact wp_region this
end
end Go.Pev
end
section
namespace Go.Pev
open Go.RowKit
theorem DS{H H':List Ob}(t:Ty)(v:AV)(h:∀ id∈Ab v,H[id]? = H'[id]?):DD H t v=DD H' t v:=by cases v<;>simp only[DD];rename_i id;rw[h id (by simp[Ab])];rename_i id off n;rw[h id (by simp[Ab])];rename_i id;rw[h id (by simp[Ab])]
theorem AGF{α:Type}{one one':List AV→Option (α×List Nat×List AV)}{H H':List Ob}
  (h1:∀ cs,(∀ id∈Ay cs,H[id]? = H'[id]?)→one cs=one' cs) (h2:∀ cs x f r,one cs=some (x,f,r)→∃ c0,cs=c0++r) :
  ∀ (n:Nat) (cs:List AV),(∀ id∈Ay cs,H[id]? = H'[id]?)→LM one n cs=LM one' n cs:=by
 intro n;induction n with
  |zero=>intro cs _;rfl
  |succ n ih=>
   intro cs h;simp only[LM];rw[← h1 cs h];cases ho:one cs with
    |none=>rfl
    |some p=>
     obtain⟨x,f,r⟩:=p;simp only;obtain⟨c0,hc⟩:=h2 _ _ _ _ ho;rw[ih r fun id hid=>h id (by
      subst hc;clear ho;induction c0 with
       |nil=>exact hid
       |cons c c0 ih'=>simp only[AcN,Ay,Abt];exact .inr (ih' fun id hid=>h id (by simp only[AcN,Ay,Abt];exact .inr hid)))]
theorem ANX{α:Type}{one:List AV→Option (α×List Nat×List AV)}(h2:∀ cs x f r,one cs=some (x,f,r)→∃ c0,cs=c0++r):
  ∀ (n:Nat) (cs:List AV) (xs:List α) (f:List Nat) (r:List AV),LM one n cs=some (xs,f,r)→∃ c0,cs=c0++r:=by
 intro n;induction n with
  |zero=>intro cs xs f r h;simp only[LM,AbZ,Abf]at h;exact⟨[],h.2.2⟩
  |succ n ih=>intro cs xs f r h;simp only[LM]at h;split at h;cases h;rename_i x f1 cs1 ho;split at h;cases h;rename_i ys g cs2 hi;simp only[AbZ,Abf]at h;obtain⟨_,_,rfl⟩:=h;obtain⟨c0,rfl⟩:=h2 _ _ _ _ ho;obtain⟨c1,rfl⟩:=ih _ _ _ _ hi;exact⟨c0++c1,by simp⟩
theorem LN{H:List Ob}:∀ (t:Ty) (cs:List AV) (x:t.den) (f:List Nat) (r:List AV),Ac H t cs=some (x,f,r)→∃ c0,cs=c0++r:=by
 intro t;induction t with
  |unit=>intro cs x f r h;simp only[Ac,AbZ,Abf]at h;exact⟨[],h.2.2⟩
  |bool=>
   intro cs x f r h;cases cs with
    |nil=>simp[Ac]at h
    |cons c cs=>unfold Ac at h;split at h;cases h;simp only[AbZ,Abf]at h;exact⟨[c],by simp[h.2.2]⟩
  |int k=>
   intro cs x f r h;cases cs with
    |nil=>simp[Ac]at h
    |cons c cs=>unfold Ac at h;split at h;cases h;simp only[AbZ,Abf]at h;exact⟨[c],by simp[h.2.2]⟩
  |slice e _=>
   intro cs x f r h;cases cs with
    |nil=>simp[Ac]at h
    |cons c cs=>unfold Ac at h;split at h;cases h;simp only[AbZ,Abf]at h;exact⟨[c],by simp[h.2.2]⟩
  |nul e=>
   intro cs x f r h;cases cs with
    |nil=>simp[Ac]at h
    |cons c cs=>unfold Ac at h;split at h;cases h;simp only[AbZ,Abf]at h;exact⟨[c],by simp[h.2.2]⟩
  |mapi j e _=>
   intro cs x f r h;cases cs with
    |nil=>simp[Ac]at h
    |cons c cs=>unfold Ac at h;split at h;cases h;simp only[AbZ,Abf]at h;exact⟨[c],by simp[h.2.2]⟩
  |prod a b iha ihb=>intro cs x f r h;simp only[Ac]at h;split at h;cases h;rename_i y f1 cs1 hy;split at h;cases h;rename_i z g cs2 hz;simp only[AbZ,Abf]at h;obtain⟨_,_,rfl⟩:=h;obtain⟨c0,rfl⟩:=iha _ _ _ _ hy;obtain⟨c1,rfl⟩:=ihb _ _ _ _ hz;exact⟨c0++c1,by simp⟩
  |arr n e ih=>intro cs x f r h;simp only[Ac]at h;exact ANX ih n cs _ _ _ h
theorem DK(a b:List AV):Ay (a++b)=Ay a++Ay b:=by
 induction a with
  |nil=>rfl
  |cons x a ih=>simp[Ay,ih]
theorem J2{H H':List Ob}:∀ (t:Ty) (cs:List AV),(∀ id∈Ay cs,H[id]? = H'[id]?)→Ac H t cs=Ac H' t cs:=by
 intro t;induction t with
  |unit=>intro cs _;cases cs<;>rfl
  |bool=>
   intro cs h;cases cs with
    |nil=>rfl
    |cons c cs=>unfold Ac;rw[DS .bool c fun id hid=>h id (by simp[Ay,hid])]
  |int k=>
   intro cs h;cases cs with
    |nil=>rfl
    |cons c cs=>unfold Ac;rw[DS (.int k) c fun id hid=>h id (by simp[Ay,hid])]
  |slice e _=>
   intro cs h;cases cs with
    |nil=>rfl
    |cons c cs=>unfold Ac;rw[DS (.slice e) c fun id hid=>h id (by simp[Ay,hid])]
  |nul e=>
   intro cs h;cases cs with
    |nil=>rfl
    |cons c cs=>unfold Ac;rw[DS (.nul e) c fun id hid=>h id (by simp[Ay,hid])]
  |mapi j e _=>
   intro cs h;cases cs with
    |nil=>rfl
    |cons c cs=>unfold Ac;rw[DS (.mapi j e) c fun id hid=>h id (by simp[Ay,hid])]
  |prod a b iha ihb=>
   intro cs h;simp only[Ac];rw[← iha cs h];cases hx:Ac H a cs with
    |none=>rfl
    |some p=>obtain⟨x,f,r⟩:=p;simp only;obtain⟨c0,rfl⟩:=LN a _ _ _ _ hx;rw[ihb r fun id hid=>h id (by rw[DK];simp[hid])]
  |arr n e ih=>intro cs h;simp only[Ac];exact AGF ih (LN e) n cs h
theorem Ba{H H':List Ob}(t:Ty)(v:AV)(h:∀ id∈Ab v,H[id]? = H'[id]?):Dn H t v=Dn H' t v:=by unfold Dn;split;cases v<;>simp only[asAgg];rename_i cs;rw[J2 t cs fun id hid=>h id (by simpa [Ab]using hid)];exact DS t v h
theorem NX{H H':List Ob}(t:Ty)(v:AV)(h:∀ id∈Ab v,H[id]? = H'[id]?):NY H t v=NY H' t v:=by have h1:=Ba t v h;cases v<;>simp only[NY]<;>first|exact h1|(rw[h1,h _ (by simp[Ab])])
structure MM(T:List Nat)(slot n:Nat)(W:List Nat)(H H':List Ob)(fz fz':List Bool):Prop where
 heap:∀ id∈T,H[id]? = H'[id]?
 slotH:∀ s,slot≤s→s<slot+n→H[s]? = H'[s]?
 slotF:∀ s,slot≤s→s<slot+n→fz.getD s false=fz'.getD s false
 len:fz.length=fz'.length
 wrF:∀ id∈W,fz.getD id false=fz'.getD id false
theorem DM{T:List Nat}{slot n:Nat}{W:List Nat}{H H':List Ob}{fz fz':List Bool}(h:MM T slot n W H H' fz fz'){s:Nat}(h1:slot≤s)(h2:s<slot+n)(fr:List Nat):
  Ai H (AS fr fz) s=Ai H' (AS fr fz') s:=by unfold Ai;rw[h.slotH s h1 h2,Al,Al,h.slotF s h1 h2,h.len]
theorem CN{T:List Nat}{slot n:Nat}{W:List Nat}{H H':List Ob}{fz fz':List Bool}(h:MM T slot n W H H' fz fz'){s:Nat}(h1:slot≤s)(h2:s<slot+n):
  Ai H fz s=Ai H' fz' s:=DM h h1 h2 []
theorem B0{T W:List Nat}{slot n:Nat}{H H':List Ob}{fz fz':List Bool}(h:MM T slot n W H H' fz fz'){id:Nat}(hid:id∈W)(fr:List Nat):
  AW (AS fr fz) id=AW (AS fr fz') id:=by unfold AW;rw[Al,Al,h.wrF id hid,h.len]
def Ei(s:Spec):Prop:=
 ∀ R args H H' fz fz' slot k,MM (Ay args) slot 4 [] H H' fz fz'→s R args H fz slot k=s R args H' fz' slot k
def Oz(S:List Nat)(H:List Ob):Prop:=∀ id∈S,∀ cs,H[id]? = some (.box cs)→∀ j∈Ay cs,j∈S
def Fk(s:Spec):Prop:=
 ∀ R args H H' fz fz' slot k (S:List Nat),(∀ id∈Ay args,id∈S)→Oz S H→MM S slot 4 S H H' fz fz'→s R args H fz slot k=s R args H' fz' slot k
def DG(E:Env):Prop:=(∀ g,E.loc g=true→Ei (E.spec g))∧∀ g,E.EM g=true→Fk (E.spec g)
section
variable {P:Program} {E:Env}
theorem Hs{ρ ρ':Operand→AV}{l:List Operand}(h:∀ x∈l,ρ x=ρ' x):l.map ρ=l.map ρ':=List.map_congr_left h
theorem M8{ρ ρ':Operand→AV}{l:List (Nat×Operand)}(h:∀ x∈l.map (·.2),ρ x=ρ' x):(l.map fun p=>(p.1,ρ p.2))=l.map fun p=>(p.1,ρ' p.2):=
 List.map_congr_left fun p hp=>by rw[h p.2 (List.mem_map_of_mem hp)]
theorem LK{ρ ρ':Operand→AV}{o:Option Operand}(h:∀ x∈o.toArray,ρ x=ρ' x):Di ρ o=Di ρ' o:=by
 cases o with
  |none=>rfl
  |some x=>simp only[Di];rw[h x (by simp)]
theorem Bd{R:Type}{ρ ρ':Operand→AV}(o:Op)(ty:TypeId)(H:List Ob)(fz:List Bool)(slot:Nat)(k:AV→Eff→Option R)(h:∀ x∈o.operands,ρ x=ρ' x):
  evalOp P E R o ty ρ H fz slot k=evalOp P E R o ty ρ' H fz slot k:=by
 cases o with
  |call c=>
   obtain⟨callee,args,ts⟩:=c;cases callee with
    |value f=>have hf:=h f (by simp[Op.operands,Call.operands]);have ha:args.toList.map ρ=args.toList.map ρ':=Hs fun x hx=>h x (by simp[Op.operands,Call.operands];right;simpa using hx);simp only[evalOp,G4,hf,ha]
    |invoke r n=>rfl
    |builtin b=>
     have ha:∀ x∈args.toList,ρ x=ρ' x:=fun x hx=>h x (by simp[Op.operands,Call.operands];simpa using hx);cases b with
      |len=>
       simp only[evalOp,It];cases hl:args.toList with
        |nil=>rfl
        |cons x r=>cases r with
         |nil=>
          rw[hl]at ha
          cases ts.toList with
          |nil=>rfl
          |cons T r=>cases r with
           |nil=>simp only[ha x (by simp)]
           |cons T' r=>rfl
         |cons y r=>rfl
      |append=>
       simp only[evalOp,CX];cases hl:args.toList with
        |nil=>rfl
        |cons x r=>cases r with
         |nil=>rfl
         |cons y r=>cases r with
          |nil=>
           rw[hl]at ha
           cases ts.toList with
           |nil=>rfl
           |cons T r=>cases r with
            |nil=>rfl
            |cons T' r=>cases r with
             |nil=>simp only[ha x (by simp),ha y (by simp)]
             |cons T'' r=>rfl
          |cons z r=>rfl
      |cap=>
       simp only[evalOp,AJj];cases hl:args.toList with
        |nil=>rfl
        |cons x r=>cases r with
         |nil=>
          rw[hl]at ha
          cases ts.toList with
          |nil=>rfl
          |cons T r=>cases r with
           |nil=>simp only[ha x (by simp)]
           |cons T' r=>rfl
         |cons y r=>rfl
      |clear=>
       simp only[evalOp,Fh];cases hl:args.toList with
        |nil=>rfl
        |cons x r=>cases r with
         |nil=>
          rw[hl]at ha
          cases ts.toList with
          |nil=>rfl
          |cons T r=>cases r with
           |nil=>simp only[ha x (by simp)]
           |cons T' r=>rfl
         |cons y r=>rfl
      |min=>
       simp only[evalOp,AJh];cases hl:args.toList with
        |nil=>rfl
        |cons x r=>cases r with
         |nil=>rfl
         |cons y r=>cases r with
          |nil=>
           rw[hl]at ha
           simp only[ha x (by simp),ha y (by simp)]
          |cons z r=>rfl
      |max=>
       simp only[evalOp,AJi];cases hl:args.toList with
        |nil=>rfl
        |cons x r=>cases r with
         |nil=>rfl
         |cons y r=>cases r with
          |nil=>
           rw[hl]at ha
           simp only[ha x (by simp),ha y (by simp)]
          |cons z r=>rfl
      |_=>rfl
  |build T parts=>have:=M8 (ρ:=ρ) (ρ':=ρ') (l:=parts.toList) fun x hx=>h x (by simpa [Op.operands]using hx);simp only[evalOp,H9,this]
  |buildSlice T n parts=>have:=M8 (ρ:=ρ) (ρ':=ρ') (l:=parts.toList) fun x hx=>h x (by simpa [Op.operands]using hx);simp only[evalOp,DR,this]
  |makeFunc fn first cs=>
   cases fn with
    |func f=>
     have:=Hs (ρ:=ρ) (ρ':=ρ') (l:=cs.toList) fun x hx=>h x (by simp[Op.operands];right;simpa using hx);have hfst:=Hs (ρ:=ρ) (ρ':=ρ') (l:=first.toList) fun x hx=>h x (by simp[Op.operands];left;simpa using hx);simp only[evalOp,Dk,this];cases hfl:first.toList with
      |nil=>rfl
      |cons y ys=>rw[hfl]at hfst;simp only[hfst]
    |_=>rfl
  |slice T x lo up mx=>
   have hx:=h x (by simp[Op.operands]);have hlo:=LK (ρ:=ρ) (ρ':=ρ') (o:=lo) fun y hy=>h y (by simp[Op.operands];simp at hy;simp[hy]);have hup:=LK (ρ:=ρ) (ρ':=ρ') (o:=up) fun y hy=>h y (by simp[Op.operands];simp at hy;simp[hy]);cases mx with
    |none=>simp only[evalOp,CJ,hx,hlo,hup]
    |some m=>have hm:=h m (by simp[Op.operands]);rcases up with _|q;simp only[evalOp,CJ,hx,hlo,hup,hm];have hq:=h q (by simp[Op.operands]);cases q<;>simp only[evalOp,CJ,hx,hlo,hup,hm,hq]
  |makeMap T o=>cases o<;>rfl
  |pick a b c=>simp only[evalOp,Mg,h a (by simp[Op.operands]),h b (by simp[Op.operands]),h c (by simp[Op.operands])]
  |mapUpdate a b c d=>simp only[evalOp,Dv,h b (by simp[Op.operands]),h c (by simp[Op.operands]),h d (by simp[Op.operands])]
  |mapEntry a b c=>simp only[evalOp,Eb,h b (by simp[Op.operands]),h c (by simp[Op.operands])]
  |entryStore a b c d=>simp only[evalOp,EF,h b (by simp[Op.operands]),h c (by simp[Op.operands]),h d (by simp[Op.operands])]
  |insert a b c d=>simp only[evalOp,Iu,h b (by simp[Op.operands]),h c (by simp[Op.operands]),h d (by simp[Op.operands])]
  |move x|assign x|box _ x|load _ x|nilCheck x|unOp _ _ x|convert _ _ x|fieldAddr _ x _|field _ x _|extract x _|makeInterface _ x|typeAssert x _ _ _=>simp only[evalOp,ABG,Ec,HS,Ln,CZ,G3,Df,CO,DQ,Mf,h x (by simp[Op.operands])]
  |store _ x y|binOp _ _ x y _|makeSlice _ x y|indexAddr _ x y|index _ x y|lookup _ x y _=>simp only[evalOp,CK,H8,BF,C9,E6,Eo,h x (by simp[Op.operands]),h y (by simp[Op.operands])]
  |_=>rfl
theorem Fz{ρ:Operand→AV}{o:Op}{x:Operand}(hx:x∈o.operands){id:Nat}(hid:id∈Ab (ρ x)):id∈FG ρ o:=by unfold FG;exact List.mem_flatMap.2 ⟨x,by simpa using hx,hid⟩
theorem N3{H H':List Ob}(t:Ty):∀ (ps:List (Nat×AV)) (xs:List t.den) (fr:List Nat),(∀ p∈ps,∀ id∈Ab p.2,H[id]? = H'[id]?)→Cu H t ps xs fr=Cu H' t ps xs fr:=by
 intro ps;induction ps with
  |nil=>intro xs fr _;rfl
  |cons p ps ih=>
   intro xs fr h;obtain⟨i,v⟩:=p;simp only[Cu];rw[Ba t v (h (i,v) (by simp))];cases Dn H' t v with
    |none=>rfl
    |some q=>cases decide (i<xs.length)with
     |true=>exact ih _ _ fun p hp=>h p (by simp[hp])
     |false=>rfl
theorem Em:∀ (t:Ty) (d:t.den),Ay (BB t d)=[]:=by
 intro t;induction t with
  |unit=>intro d;rfl
  |bool=>intro d;rfl
  |int k=>intro d;rfl
  |slice e _=>intro d;rfl
  |nul e=>intro d;rfl
  |mapi j e _=>intro d;rfl
  |prod a b iha ihb=>intro d;simp only[BB];rw[DK,iha,ihb];rfl
  |arr n e ih=>
   intro d;simp only[BB];have key:∀ l:List Nat,Ay (l.flatMap fun i=>BB e (AI d i e.zero))=[]:=by
    intro l;induction l with
     |nil=>rfl
     |cons x xs ih'=>rw[Acx,DK,ih,ih'];rfl
   exact key _
theorem AEs(l:List AV)(n:Nat){id:Nat}(h:id∈Ay (l.take n)):id∈Ay l:=by have:=AdM n l;rw[← this,DK];simp[h]
theorem AEt(l:List AV)(n:Nat){id:Nat}(h:id∈Ay (l.drop n)):id∈Ay l:=by have:=AdM n l;rw[← this,DK];simp[h]
theorem cells?_refs{v:AV}{vs:List AV}(h:cells? v=some vs){id:Nat}(hid:id∈Ay vs):id∈Ab v:=by
 cases v with
  |Bo=>simp[cells?]at h
  |tup _=>simp[cells?]at h
  |agg cs=>simp only[cells?,AbZ]at h;subst h;simpa [Ab]using hid
  |data t d=>
   cases t with
    |unit=>simp only[cells?,AbZ]at h;subst h;simp[Ay]at hid
    |prod a b=>simp only[cells?,AbZ]at h;subst h;rw[Em]at hid;cases hid
    |arr n e=>simp only[cells?,AbZ]at h;subst h;rw[Em]at hid;cases hid
    |bool=>simp only[cells?,AbZ]at h;subst h;simpa [Ay]using hid
    |int k=>simp only[cells?,AbZ]at h;subst h;simpa [Ay]using hid
    |slice e=>simp only[cells?,AbZ]at h;subst h;simpa [Ay]using hid
    |nul e=>simp only[cells?,AbZ]at h;subst h;simpa [Ay]using hid
    |mapi j e=>simp only[cells?,AbZ]at h;subst h;simpa [Ay]using hid
  |_=>simp only[cells?,AbZ]at h;subst h;simpa [Ay]using hid
theorem AE6{t:Ty}{d:t.den}{v:AV}{vs cs:List AV}{s:Nat}(hp:C0 (BB t d) vs s=some cs)(hc:cells? v=some vs){id:Nat}(hid:id∈Ay cs):id∈Ab v:=by unfold C0 at hp;split at hp;simp only[AbZ]at hp;subst hp;rw[DK,DK,Abt,Abt]at hid;rcases hid with(hid|hid)|hid;have:=AEs _ _ hid;rw[Em]at this;cases this;exact cells?_refs hc hid;have:=AEt _ _ hid;rw[Em]at this;cases this;cases hp
theorem J4{R:Type}(hL:DG E){ρ:Operand→AV}(o:Op)(ty:TypeId){H H':List Ob}{fz fz':List Bool}{slot:Nat}(k:AV→Eff→Option R)
  (ha:MM (FG ρ o) slot (slotsOf o) (Cy ρ o) H H' fz fz') (hl:D5 E ρ o=true):evalOp P E R o ty ρ H fz slot k=evalOp P E R o ty ρ H' fz' slot k:=by
 have tm:∀ x∈o.operands,∀ id∈Ab (ρ x),H[id]? = H'[id]? := fun x hx id hid=>ha.heap id (Fz hx hid);have own:∀ x∈o.operands,∀ id,ρ x = .own id→H[id]? = H'[id]? := fun x hx id h=>tm x hx id (by rw[h];simp[Ab]);have win:∀ x∈o.operands,∀ id off n,ρ x = .win id off n→H[id]? = H'[id]? := fun x hx id off n h=>tm x hx id (by rw[h];simp[Ab]);have ptr:∀ x∈o.operands,∀ id off,ρ x = .ptr id off→H[id]? = H'[id]? := fun x hx id off h=>tm x hx id (by rw[h];simp[Ab]);have ept:∀ x∈o.operands,∀ id i s,ρ x = .eptr id i s→H[id]? = H'[id]? := fun x hx id i s h=>tm x hx id (by rw[h];simp[Ab]);have mpp:∀ x∈o.operands,∀ id,ρ x = .mp id→H[id]? = H'[id]? := fun x hx id h=>tm x hx id (by rw[h];simp[Ab]);cases o with
  |alloc T=>simp only[evalOp,Jk,CN ha (s:=slot) (Abd _) (by simp[slotsOf])]
  |box T x=>simp only[evalOp,ABG,CN ha (s:=slot) (Abd _) (by simp[slotsOf])]
  |buildSlice T n parts=>
   have hf:∀ (t:Ty) xs fr,Cu H t (parts.toList.map fun p=>(p.1,ρ p.2)) xs fr=Cu H' t (parts.toList.map fun p=>(p.1,ρ p.2)) xs fr:=fun t xs fr=>
    N3 t _ xs fr fun p hp id hid=>by
     obtain⟨q,hq,rfl⟩:=Acl.1 hp
     exact tm q.2 (by simp[Op.operands];exact⟨q.1,by simpa using hq⟩) id hid
   simp only[evalOp,DR,hf,DM ha (s:=slot) (Abd _) (by simp[slotsOf]),CN ha (s:=slot) (Abd _) (by simp[slotsOf])];cases sliceAt P T with
    |some p=>rfl
    |none=>
     dsimp only;cases cellAt P T with
      |none=>rfl
      |some e=>cases decide (n=1)with
       |false=>rfl
       |true=>
        cases hps:parts.toList with
        |nil=>rfl
        |cons p r=>cases r with
         |cons p' r=>rfl
         |nil=>
          simp only[AcL,List.map_nil]
          cases hx:ρ p.2<;>try rfl
          rename_i id i s
          dsimp only
          simp only[CR,ept p.2 (by simp[Op.operands];exact⟨p.1,(by simpa using (show p∈parts.toList by rw[hps];simp))⟩) id i s hx]
  |load T x=>
   simp only[evalOp,G3];cases Az P T with
    |none=>rfl
    |some n=>cases Dd P T with
     |none=>rfl
     |some ag=>
      cases hx:ρ x<;>try rfl
      ·rename_i id off;simp only[ptr x (by simp[Op.operands]) id off hx]
      ·rename_i id i s;simp only[ept x (by simp[Op.operands]) id i s hx]
  |store T x y=>
   have hy:=tm y (by simp[Op.operands]);simp only[evalOp,Eo];cases hs:Az P T with
    |none=>rfl
    |some n=>cases hc:cells? (ρ y)with
     |none=>rfl
     |some vs=>
      dsimp only
      cases hd:decide (vs.length=n)with
      |false=>rfl
      |true=>
       dsimp only
       cases hx:ρ x<;>try rfl
       ·rename_i id off;dsimp only;rw[ptr x (by simp[Op.operands]) id off hx]
       ·rename_i id i s
        dsimp only
        rw[ept x (by simp[Op.operands]) id i s hx]
        have hun:∀ fr,AW (AS fr fz) id=AW (AS fr fz') id:=fun fr=>B0 ha (by simp[Cy,hx,Ab]) fr
        cases H'[id]? with
        |none=>rfl
        |some ob=>cases ob with
         |arr T' t xs=>
          simp only[hun,Ba _ (ρ y) hy]
          cases t.nul? with
          |some e=>rfl
          |none=>
          dsimp only
          cases (s==0&&n==t.size)with
          |true=>rfl
          |false=>
           dsimp only
           cases hp:C0 (BB t (AI xs i t.zero)) vs s with
           |none=>rfl
           |some cs=>
            dsimp only
            rw[J2 t cs (fun id' hid=>hy id' (AE6 hp hc hid))]
         |rows T' e t xs ver out=>
          have hun0:AW fz id=AW fz' id:=hun []
          cases T' with
          |map j ks=>rfl
          |arr T'=>
          cases out with
          |none=>rfl
          |some i'=>simp only[hun0]
         |_=>rfl
  |nilCheck x=>
   simp only[evalOp,CO];cases hx:ρ x<;>try rfl
   rename_i id off;simp only[D6,ptr x (by simp[Op.operands]) id off hx];rename_i id i s;simp only[CR,ept x (by simp[Op.operands]) id i s hx]
  |fieldAddr T x f=>
   simp only[evalOp,CZ];cases fieldAt P T f with
    |none=>rfl
    |some p=>
     obtain⟨off,size,ag⟩:=p;dsimp only;cases decide (size=0)with
      |true=>rfl
      |false=>
       dsimp only;cases hx:ρ x<;>try rfl
       rename_i id off;simp only[D6,ptr x (by simp[Op.operands]) id off hx];rename_i id i s;simp only[CR,ept x (by simp[Op.operands]) id i s hx]
  |makeMap T o=>
   cases o with
    |none=>simp only[evalOp,Fs,CN ha (s:=slot) (Abd _) (by simp[slotsOf])]
    |some x=>rfl
  |makeSlice T x y=>simp only[evalOp,E6,CN ha (s:=slot) (Abd _) (by simp[slotsOf])]
  |slice T x lo up mx=>
   have hx:=tm x (by simp[Op.operands]);cases mx with
    |none=>
     have hsl:∀ sz l h,Ek H sz (ρ x) l h R=Ek H' sz (ρ x) l h R:=fun sz l h=>by
      funext kk;unfold Ek;cases hv:ρ x with
       |data t d=>cases t<;>rfl
       |own id=>dsimp only;rw[own x (by simp[Op.operands]) id hv]
       |win id off n=>dsimp only;rw[win x (by simp[Op.operands]) id off n hv]
       |_=>rfl
     simp only[evalOp,CJ,hsl];cases P.underlying T with
      |none=>rfl
      |some d=>cases d with
       |array n e=>
        dsimp only
        cases Di ρ lo with
        |none=>rfl
        |some lo=>cases Di ρ up with
         |none=>rfl
         |some up=>
          cases hv:ρ x<;>try rfl
          rename_i id n'
          dsimp only
          rw[tm x (by simp[Op.operands]) id (by rw[hv];simp[Ab])]
       |_=>rfl
    |some mm=>
     have hsl:EY H (ρ x)=EY H' (ρ x):=by
      unfold EY;cases hv:ρ x with
       |data t d=>cases t<;>rfl
       |own id=>simp only[CR,own x (by simp[Op.operands]) id hv]
       |win id off n=>simp only[CR,win x (by simp[Op.operands]) id off n hv]
       |_=>rfl
     simp only[evalOp,CJ,hsl,CN ha (s:=slot) (Abd _) (by simp[slotsOf])]
  |indexAddr T x y=>
   simp only[evalOp,BF];cases hu:P.underlying T with
    |none=>rfl
    |some d=>cases d with
     |slice e=>
      cases hy:ρ y<;>try rfl
      rename_i t d'
      cases t<;>try rfl
      cases hv:ρ x with
      |data t d=>cases t<;>rfl
      |own id=>dsimp only;rw[own x (by simp[Op.operands]) id hv]
      |win id off n=>dsimp only;rw[win x (by simp[Op.operands]) id off n hv]
      |_=>rfl
     |array n e=>
      cases hy:ρ y<;>try rfl
      rename_i t d'
      cases t<;>try rfl
      rename_i j
      have hat:QZ H n (ρ x)=QZ H' n (ρ x):=by
       unfold QZ
       cases hv:ρ x<;>try rfl
       rename_i id n'
       dsimp only
       rw[tm x (by simp[Op.operands]) id (by rw[hv];simp[Ab])]
      dsimp only
      rw[hat]
      cases QZ H' n (ρ x)with
      |some q=>rfl
      |none=>
      dsimp only
      cases gAt (ρ x)with
      |some q=>rfl
      |none=>
      dsimp only
      cases Az P e with
      |none=>rfl
      |some s=>cases decide (0≤(d':Int)∧(d':Int)<(n:Int))with
       |false=>rfl
       |true=>
        dsimp only
        cases hv:ρ x<;>try rfl
        ·rename_i id off;simp only[D6,ptr x (by simp[Op.operands]) id off hv]
        ·rename_i id i s;simp only[CR,ept x (by simp[Op.operands]) id i s hv]
     |_=>rfl
  |lookup T a b ok=>
   have hb:=fun t=>Ba t (ρ b) (tm b (by simp[Op.operands]));simp only[evalOp,C9,hb];cases hu:P.underlying T with
    |none=>rfl
    |some d=>cases d with
     |map kt vt=>
      cases hv:ρ a with
      |data t d=>cases t<;>rfl
      |mp id=>dsimp only;rw[mpp a (by simp[Op.operands]) id hv]
      |_=>rfl
     |_=>rfl
  |mapUpdate T a b c=>
   have hb:=fun t=>Ba t (ρ b) (tm b (by simp[Op.operands]));have hc:=fun t=>Ba t (ρ c) (tm c (by simp[Op.operands]));simp only[evalOp,Dv,hb,hc];cases hu:P.underlying T with
    |none=>rfl
    |some d=>cases d with
     |map kt vt=>
      cases hv:ρ a<;>try rfl
      rename_i id
      dsimp only
      have hun:AW fz id=AW fz' id:=B0 ha (by simp[Cy,hv,Ab]) []
      rw[mpp a (by simp[Op.operands]) id hv,hun]
     |_=>rfl
  |mapEntry T a b=>
   have hb:=fun t=>Ba t (ρ b) (tm b (by simp[Op.operands]));simp only[evalOp,Eb];cases hu:P.underlying T with
    |none=>rfl
    |some d=>cases d with
     |map kt vt=>
      cases hv:ρ a<;>try rfl
      rename_i id
      dsimp only
      rw[mpp a (by simp[Op.operands]) id hv]
      simp only[hb]
     |_=>rfl
  |entryStore T a b c=>
   have hc:=fun t=>Ba t (ρ c) (tm c (by simp[Op.operands]));simp only[evalOp,EF];cases hv:ρ a<;>try rfl
   rename_i id;cases hs:ρ b<;>try rfl
   rename_i t d;cases t<;>try rfl
   rename_i j;cases j<;>try rfl
   dsimp only;rw[mpp a (by simp[Op.operands]) id hv];simp only[hc]
  |insert T a b c=>
   have hb:=fun t=>Ba t (ρ b) (tm b (by simp[Op.operands]));have hc:=fun t=>Ba t (ρ c) (tm c (by simp[Op.operands]));simp only[evalOp,Iu];cases hu:P.underlying T with
    |none=>rfl
    |some d=>cases d with
     |map kt vt=>
      cases hv:ρ a<;>try rfl
      rename_i id
      dsimp only
      rw[mpp a (by simp[Op.operands]) id hv]
      simp only[hb,hc]
     |_=>rfl
  |convert S T x=>have hx:=fun t=>Ba t (ρ x) (tm x (by simp[Op.operands]));simp only[evalOp,Ec];split;rfl;simp only[hx]
  |call c=>
   obtain⟨callee,args,ts⟩:=c;cases callee with
    |value f=>
     simp only[evalOp,G4];cases hf:ρ f<;>try rfl
     rename_i g caps;dsimp only;refine hL.1 g (by simpa [D5,hf]using hl) R _ H H' fz fz' slot k ⟨fun id hid=>ha.heap id ?_,ha.slotH,ha.slotF,ha.len,fun id hid=>by cases hid⟩;rw[DK,Abt]at hid;rcases hid with hid|hid;have key:∀ l:List Operand,id∈Ay (l.map ρ)→∃ x∈l,id∈Ab (ρ x):=by
      intro l;induction l with
       |nil=>intro h;simp[Ay]at h
       |cons y l ih=>intro h;simp only[AcL,Ay,Abt]at h;rcases h with h|h;exact⟨y,by simp,h⟩;obtain⟨x,h1,h2⟩:=ih h;exact⟨x,by simp[h1],h2⟩
     obtain⟨x,h1,h2⟩:=key _ hid;exact Fz (x:=x) (by simp[Op.operands,Call.operands];right;simpa using h1) h2;exact Fz (x:=f) (by simp[Op.operands,Call.operands]) (by rw[hf];simpa [Ab]using hid);rename_i g caps;dsimp only;refine hL.1 g (by simpa [D5,hf]using hl) R _ H H' fz fz' slot k ⟨fun id hid=>ha.heap id ?_,ha.slotH,ha.slotF,ha.len,fun id hid=>by cases hid⟩;rw[DK,Abt]at hid;rcases hid.symm with hid|hid;have key:∀ l:List Operand,id∈Ay (l.map ρ)→∃ x∈l,id∈Ab (ρ x):=by
      intro l;induction l with
       |nil=>intro h;simp[Ay]at h
       |cons y l ih=>intro h;simp only[AcL,Ay,Abt]at h;rcases h with h|h;exact⟨y,by simp,h⟩;obtain⟨x,h1,h2⟩:=ih h;exact⟨x,by simp[h1],h2⟩
     obtain⟨x,h1,h2⟩:=key _ hid;exact Fz (x:=x) (by simp[Op.operands,Call.operands];right;simpa using h1) h2;exact Fz (x:=f) (by simp[Op.operands,Call.operands]) (by rw[hf];simpa [Ab]using hid)
    |invoke r n=>rfl
    |builtin b=>
     have ops:∀ x∈args.toList,x∈Op.operands (.call { callee:=.builtin b,args:=args,argTypes:=ts }):=fun x hx=>by simp[Op.operands,Call.operands];simpa using hx
     cases b with
      |len=>
       simp only[evalOp,It];cases h1:args.toList with
        |nil=>rfl
        |cons x r=>cases r with
         |cons y r=>rfl
         |nil=>
          have hx:=ops x (by rw[h1];simp)
          cases ts.toList with
          |nil=>rfl
          |cons T r=>cases r with
           |cons T' r=>rfl
           |nil=>
            dsimp only
            cases hu:P.underlying T with
            |none=>rfl
            |some d=>
             cases d with
             |slice e=>
              dsimp only
              cases hv:ρ x with
              |data t d=>cases t<;>rfl
              |own id=>dsimp only;rw[own x hx id hv]
              |win id off n=>simp only[CR,win x hx id off n hv]
              |_=>rfl
             |map a b=>
              dsimp only
              cases hv:ρ x with
              |mp id=>dsimp only;rw[mpp x hx id hv]
              |_=>rfl
             |_=>rfl
      |append=>
       simp only[evalOp,CX];cases h1:args.toList with
        |nil=>rfl
        |cons s r=>cases r with
         |nil=>rfl
         |cons x r=>cases r with
          |cons z r=>rfl
          |nil=>
           have hs:=ops s (by rw[h1];simp)
           have hx:=ops x (by rw[h1];simp)
           have hfree:=CN ha (s:=slot) (Abd _) (by simp[slotsOf])
           cases ts.toList with
           |nil=>rfl
           |cons T r=>cases r with
            |nil=>rfl
            |cons T' r=>cases r with
             |cons T'' r=>rfl
             |nil=>
              dsimp only
              cases sliceAt P T with
              |none=>
               cases decide (T=T')with
               |false=>rfl
               |true=>
                dsimp only
                cases cellAt P T with
                |none=>rfl
                |some e=>
                 cases hvx:ρ x<;>try rfl
                 rename_i ix
                 dsimp only
                 rw[own x hx ix hvx]
                 cases hvs:ρ s with
                 |own id=>simp only[hfree,own s hs id hvs]
                 |_=>simp only[hfree]
              |some p=>
               obtain⟨e,t⟩:=p
               cases decide (T=T')with
               |false=>
                dsimp only
                cases ρ s<;>try rfl
                cases ρ x with
                |data tx d=>
                 cases tx with
                 |int kx=>
                  simp only[hfree]
                 |_=>rfl
                |_=>rfl
               |true=>
                dsimp only
                rw[Ba (.slice t) (ρ x) (tm x hx)]
                cases Dn H' (.slice t) (ρ x)with
                |none=>rfl
                |some q=>
                 obtain⟨ys,fr⟩:=q
                 cases zeroAt P e with
                 |none=>rfl
                 |some zz=>
                  cases (P.info? e).map (fun i=>decide (i.bytes≤1024))with
                  |none=>rfl
                  |some bb=>cases bb with
                   |false=>rfl
                   |true=>
                    dsimp only
                    cases hv:ρ s<;>try rfl
                    ·simp only[hfree]
                    ·rename_i id
                     have hun:AW fz id=AW fz' id:=B0 ha (by simp[Cy,h1,hv,Ab]) []
                     dsimp only
                     rw[own s hs id hv]
                     simp only[hfree,hun]
                    ·rename_i id off n
                     have hun:AW fz id=AW fz' id:=B0 ha (by simp[Cy,h1,hv,Ab]) []
                     cases off with
                     |succ off=>rfl
                     |zero=>simp only[win s hs id 0 n hv,hfree,hun]
                    ·simp only[hfree]
                    ·rename_i id i ver
                     have hun:AW fz id=AW fz' id:=B0 ha (by simp[Cy,h1,hv,Ab]) []
                     dsimp only
                     rw[tm s hs id (by rw[hv];simp[Ab])]
                     simp only[hun]
      |clear=>
       simp only[evalOp,Fh];cases h1:args.toList with
        |nil=>rfl
        |cons x r=>cases r with
         |cons z r=>rfl
         |nil=>
          have hx:=ops x (by rw[h1];simp)
          cases ts.toList with
          |nil=>rfl
          |cons T r=>cases r with
           |cons T' r=>rfl
           |nil=>
            dsimp only
            cases sliceAt P T with
            |none=>rfl
            |some p=>
             obtain⟨e,t⟩:=p
             dsimp only
             cases zeroAt P e with
             |none=>rfl
             |some zz=>
              dsimp only
              cases hv:ρ x<;>try rfl
              ·rename_i id
               have hun:AW fz id=AW fz' id:=B0 ha (by simp[Cy,h1,hv,Ab]) []
               dsimp only
               rw[own x hx id hv]
               simp only[hun]
              ·rename_i id off n
               have hun:AW fz id=AW fz' id:=B0 ha (by simp[Cy,h1,hv,Ab]) []
               simp only[win x hx id off n hv,hun]
      |_=>rfl
  |makeFunc fn first cs=>cases fn<;>rfl
  |_=>rfl
theorem XC{R:Type}(hL:DG E){ρ:Operand→AV}(o:Op)(ty:TypeId){H H':List Ob}{fz fz':List Bool}{slot:Nat}(k:AV→Eff→Option R)
  (ha:MM (IJ ρ o) slot (slotsOf o) (Cy ρ o) H H' fz fz') (hl:D5 E ρ o=true):evalOp P E R o ty ρ H fz slot k=evalOp P E R o ty ρ H' fz' slot k:=by
 cases o with
  |move x=>rfl
  |assign x=>rfl
  |pick c a b=>rfl
  |extract x i=>rfl
  |build T ps=>rfl
  |makeFunc f a b=>cases f<;>rfl
  |store T x y=>
   by_cases hp:∃ id off,ρ x = .ptr id off;obtain⟨id,off,hx⟩:=hp;have hid:=ha.heap id (by simp only[IJ,hx];simp);simp only[evalOp,Eo,hx,hid];have e:IJ ρ (.store T x y)=FG ρ (.store T x y):=by simp only[IJ];split;rename_i id off hx;exact absurd ⟨id,off,hx⟩ hp;rfl
   rw[e]at ha;exact J4 hL (.store T x y) ty k ha hl
  |_=>exact J4 hL _ ty k ha hl
theorem S1{l:List AV}{id:Nat}(h:id∈Ay l):∃ v∈l,id∈Ab v:=by
 induction l with
  |nil=>simp[Ay]at h
  |cons a l ih=>simp only[Ay,Abt]at h;rcases h with h|h;exact⟨a,by simp,h⟩;obtain⟨v,hv,hi⟩:=ih h;exact⟨v,by simp[hv],hi⟩
theorem CG{l:List AV}{v:AV}{id:Nat}(hv:v∈l)(h:id∈Ab v):id∈Ay l:=by
 induction l with
  |nil=>cases hv
  |cons a l ih=>simp only[Ay,Abt];rcases AcH.1 hv with rfl|hv;exact .inl h;exact .inr (ih hv)
theorem ABF{R:Type}(hL:DG E){ρ:Operand→AV}{φ:List Nat}(o:Op)(ty:TypeId){H H':List Ob}{fz fz':List Bool}{slot:Nat}(k:AV→Eff→Option R)(hw:Hf E ρ o φ H=true)
  (ha:MM (φ.map (· / 2)) slot (slotsOf o) (φ.map (· / 2)) H H' fz fz'):evalOp P E R o ty ρ H fz slot k=evalOp P E R o ty ρ H' fz' slot k:=by
 unfold Hf at hw;simp only[Aba]at hw;obtain⟨⟨⟨h1,h2⟩,h3⟩,h4⟩:=hw;unfold MY at h4;split at h4;rename_i f args ts;split at h4;rename_i g caps hf;simp only[evalOp,G4,hf];have wtS:∀ {i:Nat},wt φ i=true→i∈φ.map (· / 2):=by intro i hi;unfold wt at hi;simp only[AcZ,Abb]at hi;exact Acl.2 ⟨_,hi,by omega⟩
 refine hL.2 g h4 R _ H H' fz fz' slot k (φ.map (· / 2)) (fun id hid => ?_) (fun id hid cs hc j hj => ?_) ⟨ha.heap,ha.slotH,ha.slotF,ha.len,ha.wrF⟩
 rw[Abk]at h1;refine wtS (h1 id ?_);unfold FG;rw[List.mem_flatMap];obtain⟨v,hv,hi⟩:=S1 hid;rcases Abt.1 hv with hv|hv;obtain⟨x,hx,rfl⟩:=Acl.1 hv;exact⟨x,by simp[Op.operands,Call.operands];right;simpa using hx,hi⟩;exact⟨f,by simp[Op.operands,Call.operands],by rw[hf];simp only[Ab];exact CG hv hi⟩;unfold Jq at h2;rw[Abk]at h2;obtain⟨c,hcφ,rfl⟩:=Acl.1 hid;have:=h2 c hcφ;rw[hc]at this;simp only[Abk]at this;exact wtS (this j hj);rename_i g caps hf;simp only[evalOp,G4,hf];have wtS:∀ {i:Nat},wt φ i=true→i∈φ.map (· / 2):=by intro i hi;unfold wt at hi;simp only[AcZ,Abb]at hi;exact Acl.2 ⟨_,hi,by omega⟩
 refine hL.2 g h4 R _ H H' fz fz' slot k (φ.map (· / 2)) (fun id hid => ?_) (fun id hid cs hc j hj => ?_) ⟨ha.heap,ha.slotH,ha.slotF,ha.len,ha.wrF⟩
 rw[Abk]at h1;refine wtS (h1 id ?_);unfold FG;rw[List.mem_flatMap];obtain⟨v,hv,hi⟩:=S1 hid;rcases(Abt.1 hv).symm with hv|hv;obtain⟨x,hx,rfl⟩:=Acl.1 hv;exact⟨x,by simp[Op.operands,Call.operands];right;simpa using hx,hi⟩;exact⟨f,by simp[Op.operands,Call.operands],by rw[hf];simp only[Ab];exact CG hv hi⟩;unfold Jq at h2;rw[Abk]at h2;obtain⟨c,hcφ,rfl⟩:=Acl.1 hid;have:=h2 c hcφ;rw[hc]at this;simp only[Abk]at this;exact wtS (this j hj);cases h4;cases h4
end
end Go.Pev
end
section
namespace Go.Pev
open Go.RowKit
section
variable {P:Program} {E:Env}
def Bs(all:List Oper)(g:Option (Nat×Bool))(st:St):Option Bool:=
 match g with
 |none=>some true
 |some (j,want)=>match(all[j]?).bind (·.dst)with
  |none=>none
  |some d=>match st.tmps.f d with
   |.data .bool b=>some (b==want)
   |.tup []=>some false
   |_=>none
theorem W2{R:Type}{all:List Oper}{g:Option (Nat×Bool)}{st:St}{yes no:St→Option R}{r:R}(h:guarded R all g st yes no=some r):
  (Bs all g st=some true∧yes st=some r)∨(Bs all g st=some false∧no st=some r):=by unfold guarded at h;unfold Bs;split at h;exact .inl ⟨rfl,h⟩;rename_i j want;split at h;cases h;rename_i d hj;simp only[hj];split at h;rename_i b hd;have hs:=Tm.IW hd;simp only[hd];split at h;rw[hs]at h;split at h;exact .inl ⟨rfl,h⟩;exact .inr ⟨rfl,h⟩;rw[hs]at h;split at h;exact .inr ⟨rfl,h⟩;exact .inl ⟨rfl,h⟩;rename_i hd;simp only[hd];exact .inr ⟨by first|rfl|trivial,h⟩;cases h
def Kn(E:Env)(H:List Ob)(ρ:Operand→AV)(o:Op)(φ:List Nat):Prop:=(IU φ=true∧Hf E ρ o φ H=true)∨(within (IJ ρ o) φ=true∧JN (Cy ρ o) φ=true∧D5 E ρ o=true)
def Bv(P:Program)(E:Env)(all:List Oper)(o:Oper)(φ:List Nat)(slot:Nat)(st st1:St):Prop:=
 (Bs all o.guard st=some true∧∃ v e,(Hl φ=true∨(Kn E st.heap (Ah st.tmps) o.op φ∧Lr (writer o.op||IU φ) φ slot (slotsOf o.op) e=true)) ∧
  (∀ (R:Type) (k:AV→Eff→Option R),evalOp P E R o.op o.type (Ah st.tmps) st.heap st.frz slot k=k v e)∧st1=(st.app e).put o.dst v) ∨
 (Bs all o.guard st=some false∧st1=st.put o.dst A6)
theorem PH(hE:∀ g,Ad P g (E.spec g)){R:Type}{all:List Oper}{o:Oper}{φ:List Nat}{slot:Nat}{st:St}{k:St→Option R}{r:R}(h:Ky P E R all o φ slot st k=some r):
  ∃ st1,Bv P E all o φ slot st st1∧k st1=some r:=by
 unfold Ky at h;rcases W2 h with⟨hg,h⟩|⟨hg,h⟩
 split at h;rename_i hw;simp only[AcC,Aba]at hw;obtain⟨v,e,h1,h2,_⟩:=DP hE o.op R _ _ _ _ _ _ _ h;split at h1;rename_i he;rw[AcC]at he;refine⟨_,.inl ⟨hg,v,e,?_,h2,rfl⟩,h1⟩;rcases hw with hw|hw;exact .inl hw;rcases he with he|he;exact .inl he;refine .inr ⟨?_,he⟩;rcases hw with hw|hw;exact .inl hw;exact .inr ⟨hw.2.1.1,hw.2.1.2,hw.2.2⟩;cases h1;cases h;exact⟨_,.inr ⟨hg,rfl⟩,h⟩
def FV(P:Program)(E:Env)(all:List Oper)(fp:Nat→List Nat)(sl:Nat→Nat):List Nat→St→St→Prop
 |[],st,st'=>st=st'
 |i::l,st,st'=>∃ o s1,all[i]? = some o∧Bv P E all o (fp i) (sl i) st s1∧FV P E all fp sl l s1 st'
def Aw(all:List Oper)(base i:Nat):Nat:=base+Bn (all.take i)
theorem GB(a b:List Oper):Bn (a++b)=Bn a+Bn b:=by
 unfold Bn;induction a with
  |nil=>simp
  |cons x a ih=>simp only[AcN,AcL,List.foldr_cons,ih];omega
theorem RZ(hE:∀ g,Ad P g (E.spec g)){R:Type}{all:List Oper}{fp:List (List Nat)}{base:Nat}{k:St→Option R}{r:R}:∀ (rest pre:List Oper) (fp':List (List Nat)) (slot:Nat) (st:St),
  all=pre++rest→fp'=fp.drop pre.length→slot=Aw all base pre.length→Gb P E R all rest fp' slot st k=some r →
  ∃ st',FV P E all (fun i=>fp.getD i []) (Aw all base) (List.range' pre.length rest.length) st st'∧k st'=some r:=by
 intro rest;induction rest with
  |nil=>intro pre fp' slot st _ _ _ h;exact⟨st,rfl,h⟩
  |cons o rest ih=>
   intro pre fp' slot st hall hfp hsl h;simp only[Gb]at h;obtain⟨s1,h1,h2⟩:=PH hE h;have hlen:(pre++[o]).length=pre.length+1:=by simp
   have hfp1:fp'.headD []=fp.getD pre.length []:=by rw[hfp,Abi,AdX,AdW]
   have hfp2:fp'.tail=fp.drop (pre++[o]).length:=by rw[hfp,hlen,List.tail_drop]
   have hs2:slot+slotsOf o.op=Aw all base (pre++[o]).length:=by
    rw[hsl,hlen];unfold Aw;have e1:all.take (pre.length+1)=pre++[o]:=by rw[hall,Aci,AcD (by omega)];simp
    have e2:all.take pre.length=pre:=by rw[hall];simp
    rw[e1,e2,GB];simp[Bn];omega
   obtain⟨st',h3,h4⟩:=ih (pre++[o]) _ _ s1 (by rw[hall];simp) hfp2 hs2 h2;refine⟨st',?_,h4⟩;rw[Abz,Acs];refine⟨o,s1,by rw[hall];simp,?_,by rw[hlen]at h3;exact h3⟩;show Bv P E all o (fp.getD pre.length []) (Aw all base pre.length) st s1;rw[← hfp1,← hsl];exact h1
theorem M5:∀ (l:List (Nat×Ob)) (H:List Ob),(Au l H).length=H.length:=by
 intro l;induction l with
  |nil=>intro H;rfl
  |cons p l ih=>intro H;obtain⟨i,o⟩:=p;simp only[Au];rw[ih,AdE]
theorem BG{i:Nat}:∀ (l:List (Nat×Ob)) (H:List Ob),(∀ p∈l,p.1≠i)→(Au l H)[i]? = H[i]? := by
 intro l;induction l with
  |nil=>intro H _;rfl
  |cons p l ih=>intro H h;obtain⟨j,o⟩:=p;simp only[Au];rw[ih _ fun p hp=>h p (by simp[hp]),AR (Ab9 (h (j,o) (by simp)))]
theorem El{i:Nat}:∀ (l:List (Nat×Ob)) (H H':List Ob),H[i]? = H'[i]?→(Au l H)[i]? = (Au l H')[i]? := by
 intro l;induction l with
  |nil=>intro H H' h;exact h
  |cons p l ih=>intro H H' h;obtain⟨j,o⟩:=p;simp only[Au];refine ih _ _ ?_;by_cases hij:i=j;subst hij;rw[List.getElem?_set_self',List.getElem?_set_self',h];rw[AR hij,AR hij];exact h
theorem Vz(a b:List (Nat×Ob))(h:∀ p∈a,∀ q∈b,p.1≠q.1)(H:List Ob):Au a (Au b H)=Au b (Au a H):=by
 apply AdK;intro i;by_cases ha:∀ p∈a,p.1≠i;rw[BG a _ ha];exact El b _ _ (BG a _ ha).symm;have hb:∀ q∈b,q.1≠i:=by intro q hq hqi;refine ha fun p hp hpi=>h p hp q hq (by rw[hpi,hqi])
 rw[BG b _ hb];exact El a _ _ (BG b _ hb)
theorem ZA(a b:List Nat)(fz:List Bool):AS a (AS b fz)=AS b (AS a fz):=by
 apply AdK;intro i;have hl:∀ (x:List Bool) (y:List Bool),x.length=y.length→(∀ i,x.getD i false=y.getD i false)→x[i]? = y[i]? := by intro x y hlen hg;have:=hg i;rw[Abi,Abi]at this;rcases Abv i x.length with h|h;rw[Abg h,Abg (hlen▸h)]at this ⊢;simpa using this;rw[Abo h,Abo (hlen▸h)]
 refine hl _ _ (by simp[Cc]) fun i => ?_;rw[Al,Al,Al,Al,Cc,Cc];cases fz.getD i false<;>cases decide (i∈a)<;>cases decide (i∈b)<;>cases decide (i<fz.length)<;>rfl
theorem O3{l φ:List Nat}(h:within l φ=true){i:Nat}(hi:i∈l):rd φ i=true:=by unfold within at h;rw[Abk]at h;exact h i hi
theorem Yi{l φ:List Nat}(h:JN l φ=true){i:Nat}(hi:i∈l):wt φ i=true:=by unfold JN at h;rw[Abk]at h;exact h i hi
theorem HC{φ:List Nat}{i:Nat}(h:wt φ i=true):rd φ i=true:=by unfold wt at h;unfold rd;rw[h];simp
theorem IA{wr:Bool}{φ:List Nat}{slot n:Nat}{e:Eff}(h:Lr wr φ slot n e=true):e.heap=none∧(∀ p∈e.objs,(slot≤p.1∧p.1<slot+n)∨(wr=true∧wt φ p.1=true))∧∀ i∈e.frz,rd φ i=true:=by unfold Lr at h;simp only[Aba]at h;obtain⟨⟨h1,h2⟩,h3⟩:=h;refine⟨by simpa using h1,fun p hp => ?_,fun i hi=>O3 h3 hi⟩;rw[Abk]at h2;have:=h2 p hp;simp only[AcC,Aba,Abb]at this;rcases this with h|h;exact .inl h;exact .inr h
theorem By{e:Eff}(h:e.heap=none)(H:List Ob):Bj e H=Au e.objs H:=by unfold Bj;rw[h]
theorem CE{e:Eff}(h:e.heap=none)(F:List Bool):Dc e F=AS e.frz F:=by unfold Dc;rw[h]
theorem BW{all:List Oper}{x y:Oper}(hap:apart? all x y=true)(st:St)(v:AV):∀ z∈y.op.operands,Ah (st.put x.dst v).tmps z=Ah st.tmps z:=by
 obtain⟨h1,_,_⟩:=Oper.apart_spec hap;intro z hz;cases hd:x.dst with
  |none=>rfl
  |some d=>
   cases z with
    |tmp t=>
     have hne:d≠t:=by rintro rfl;refine h1 d hd ?_;unfold Oper.looksAt;refine List.mem_append_left _ ?_;rw[List.mem_filterMap];exact⟨.tmp d,by simpa using hz,rfl⟩
     simp[Ah,St.put,Tm.M4,Ab9 hne]
    |const v=>rfl
    |global g=>rfl
    |func f=>rfl
theorem E4{all:List Oper}{x y:Oper}(hap:apart? all x y=true)(st:St)(v:AV)(H:List Ob)(F:List Bool):Bs all y.guard ({ st with heap:=H,frz:=F }.put x.dst v)=Bs all y.guard st:=by
 obtain⟨h1,_,_⟩:=Oper.apart_spec hap;unfold Bs;cases hg:y.guard with
  |none=>rfl
  |some p=>
   obtain⟨j,want⟩:=p;dsimp only;cases hj:(all[j]?).bind (·.dst)with
    |none=>rfl
    |some d=>
     dsimp only;cases hd:x.dst with
      |none=>rfl
      |some d'=>
       have hne:d'≠d:=by rintro rfl;refine h1 d' hd ?_;unfold Oper.looksAt;refine List.mem_append_right _ ?_;simp[hg];exact hj
       simp[St.put,Tm.M4,Ab9 hne]
theorem St.put_comm(st:St){x y:Option Tmp}(v u:AV)(h:∀ d,x=some d→y≠some d):(st.put x v).put y u=(st.put y u).put x v:=by
 cases x with
  |none=>rfl
  |some d=>
   cases y with
    |none=>rfl
    |some d'=>have hne:d≠d':=fun e=>h d rfl (by rw[e]);simp only[St.put];rw[Tm.set_comm _ _ _ hne]
theorem St.Fj(st:St)(e:Eff)(d:Option Tmp)(v:AV):(st.put d v).app e=(st.app e).put d v:=by cases d<;>rfl
theorem ARH{φ:List Nat}{i:Nat}(h:rd φ i=true):∃ c∈φ,c/2=i:=by unfold rd at h;simp only[AcC,AcZ,Abb]at h;rcases h with h|h;exact⟨_,h,by omega⟩;exact⟨_,h,by omega⟩
theorem Il{all:List Oper}{x y:Oper}{φx φy:List Nat}{sx sy:Nat}(h:indep all x y φx φy sx sy=true):
  apart? all x y=true∧((IU φx=false∧IU φy=false∧Og x.op y.op=true)∨(Hl φx=true∧BX y.op=true)∨(Hl φy=true∧BX x.op=true)∨Hl φx=false∧Hl φy=false∧(∀ i,rd φy i=true→¬ (sx≤i∧i<sx+slotsOf x.op))∧(∀ i,rd φx i=true→¬ (sy≤i∧i<sy+slotsOf y.op))∧(∀ i,wt φx i=true→rd φy i=true→False)∧(∀ i,wt φy i=true→rd φx i=true→False)):=by
 unfold indep at h;rw[Aba]at h;obtain⟨h1,h⟩:=h;refine⟨h1,?_⟩;simp only[AcC,Aba,AcQ]at h;rcases h with((h|h)|h)|h;exact .inr (.inl h);exact .inr (.inr (.inl h));rotate_left;exact .inl ⟨h.1,h.2.1,h.2.2⟩;obtain⟨⟨⟨⟨⟨hx,hy⟩,h2⟩,h3⟩,h4⟩,h5⟩:=h;refine .inr (.inr (.inr ⟨hx,hy,?_⟩));rw[Abk]at h2 h3 h4 h5;have own:∀ {φ:List Nat} {s n:Nat},(∀ c∈φ,(!(decide (s≤c/2)&&decide (c/2<s+n)))=true)→∀ i,rd φ i=true→¬ (s≤i∧i<s+n):=by intro φ s n h i hi;obtain⟨c,hc,rfl⟩:=ARH hi;have:=h c hc;simp at this;omega
 have wr:∀ {φ ψ:List Nat},(∀ c∈φ,(decide (c % 2=0) || !(rd ψ (c/2)))=true)→∀ i,wt φ i=true→rd ψ i=true→False:=by
  intro φ ψ h i hi hr;unfold wt at hi;simp only[AcZ,Abb]at hi;have:=h _ hi;have e1:(2*i+1) % 2=1:=by omega
  have e2:(2*i+1)/2=i:=by omega
  rw[e1,e2,hr]at this;simp at this
 exact⟨own h2,own h3,wr h4,wr h5⟩
theorem GR{all:List Oper}{x y:Oper}(h:apart? all x y=true):apart? all y x=true:=by
 obtain⟨h1,h2,h3⟩:=Oper.apart_spec h;unfold apart? Oper.apart;rw[Aba];constructor;cases hy:y.dst with
  |none=>rfl
  |some d=>have a:=h3 d hy;have b:x.dst≠some d:=fun e=>h2 d e hy;simp[a,b]
 cases hx:x.dst with
  |none=>rfl
  |some d=>simpa using h1 d hx
theorem R1{φ:List Nat}{H H':List Ob}(h:∀ i,rd φ i=true→H[i]? = H'[i]?):Jq φ H=Jq φ H':=by
 unfold Jq;rw[Bool.eq_iff_iff,Abk,Abk];have e:∀ c∈φ,H[c/2]? = H'[c/2]? := by intro c hc;refine h _ ?_;unfold rd;simp only[AcC,AcZ,Abb];rcases Nat.mod_two_eq_zero_or_one c with h'|h';left;rw[show 2*(c/2)=c from by omega];exact hc;right;rw[show 2*(c/2)+1=c from by omega];exact hc
 constructor<;>intro hh c hc;rw[← e c hc];exact hh c hc;rw[e c hc];exact hh c hc
theorem Xk{ρ:Operand→AV}{o:Op}{φ:List Nat}{H H':List Ob}(h:∀ i,rd φ i=true→H[i]? = H'[i]?)(hk:Kn E H ρ o φ):Kn E H' ρ o φ:=by rcases hk with⟨h1,h2⟩|hk;refine .inl ⟨h1,?_⟩;unfold Hf at *;rw[← R1 h];exact h2;exact .inr hk
theorem Ta{x:Oper}{φx φy:List Nat}{sx:Nat}(h1:∀ i,rd φy i=true→¬ (sx≤i∧i<sx+slotsOf x.op))(h3:∀ i,wt φx i=true→rd φy i=true→False){st:St}{vx:AV}{ex:Eff}{bx:Bool}(hex:Lr bx φx sx (slotsOf x.op) ex=true):
  ∀ i,rd φy i=true→((st.app ex).put x.dst vx).heap[i]? = st.heap[i]? := by
 intro i hi;obtain⟨q1,q2,q3⟩:=IA hex;have hheap:((st.app ex).put x.dst vx).heap=Au ex.objs st.heap:=by cases x.dst<;>exact By q1 _
 rw[hheap];refine BG _ _ fun p hp => ?_;rintro rfl;rcases q2 p hp with h|⟨_,h⟩
 exact h1 _ hi h;exact h3 _ h hi
theorem So(hL:DG E){all:List Oper}{x y:Oper}{φx φy:List Nat}{sx sy:Nat}(hap:apart? all x y=true)(h1:∀ i,rd φy i=true→¬ (sx≤i∧i<sx+slotsOf x.op))
  (h2:∀ i,rd φx i=true→¬ (sy≤i∧i<sy+slotsOf y.op)) (h3:∀ i,wt φx i=true→rd φy i=true→False) (h4:∀ i,wt φy i=true→rd φx i=true→False) (hsl:sx+slotsOf x.op≤sy∨sy+slotsOf y.op≤sx)
  {st:St} {vx:AV} {ex:Eff} {bx:Bool} (hex:Lr bx φx sx (slotsOf x.op) ex=true) (hk:Kn E ((st.app ex).put x.dst vx).heap (Ah st.tmps) y.op φy∨Kn E st.heap (Ah st.tmps) y.op φy) :
  ∀ (R:Type) (k:AV→Eff→Option R),evalOp P E R y.op y.type (Ah ((st.app ex).put x.dst vx).tmps) ((st.app ex).put x.dst vx).heap ((st.app ex).put x.dst vx).frz sy k=evalOp P E R y.op y.type (Ah st.tmps) st.heap st.frz sy k:=by
 intro R k;obtain⟨q1,q2,q3⟩:=IA hex;have hput:∀ z∈y.op.operands,Ah ((st.app ex).put x.dst vx).tmps z=Ah st.tmps z:=fun z hz=>by have:=BW hap (st.app ex) vx z hz;exact this
 have hheap:((st.app ex).put x.dst vx).heap=Au ex.objs st.heap:=by cases x.dst<;>exact By q1 _
 have hfrz:((st.app ex).put x.dst vx).frz=AS ex.frz st.frz:=by cases x.dst<;>exact CE q1 _
 rw[hheap]at hk;rw[hheap,hfrz];have hsame:∀ i,rd φy i=true→(Au ex.objs st.heap)[i]? = st.heap[i]? := by
  intro i hi;refine BG _ _ fun p hp => ?_;rintro rfl;rcases q2 p hp with h|⟨_,h⟩
  exact h1 _ hi h;exact h3 _ h hi
 have hkn:Kn E st.heap (Ah st.tmps) y.op φy:=hk.elim (fun h=>Xk hsame h) fun h=>h;rcases hkn with⟨_,hw⟩|⟨hw,hww,hl⟩
 rw[Bd y.op y.type _ _ sy k hput];symm;have wtS:∀ c∈φy,wt φy (c/2)=true:=by intro c hc;unfold Hf at hw;simp only[Aba]at hw;have:=hw.1.2;rw[Abk]at this;have:=this c hc;simp only[AcW]at this;unfold wt;simp only[AcZ,Abb];rw[show 2*(c/2)+1=c from by omega];exact hc
 refine ABF hL y.op y.type k hw ⟨fun id hid => ?_,fun s a1 a2 => ?_,fun s a1 a2 => ?_,(Cc _ _).symm,fun id hid => ?_⟩;obtain⟨c,hc,rfl⟩:=Acl.1 hid;exact(hsame _ (HC (wtS c hc))).symm;symm;refine BG _ _ fun p hp => ?_;rintro rfl;rcases q2 p hp with h|⟨hwx,h⟩
 omega;exact h2 _ (HC h) ⟨a1,a2⟩;rw[Al];have:s∉ex.frz:=fun h=>h2 _ (q3 s h) ⟨a1,a2⟩;simp[this];obtain⟨c,hc,rfl⟩:=Acl.1 hid;rw[Al];have:c/2∉ex.frz:=fun h=>h4 _ (wtS c hc) (q3 _ h);simp[this];have hag:MM (IJ (Ah st.tmps) y.op) sy (slotsOf y.op) (Cy (Ah st.tmps) y.op) (Au ex.objs st.heap) st.heap (AS ex.frz st.frz) st.frz:=by
  refine⟨fun id hid => ?_,fun s a1 a2 => ?_,fun s a1 a2 => ?_,Cc _ _,fun id hid => ?_⟩;have hφ:=O3 hw hid;refine BG _ _ fun p hp => ?_;rintro rfl;rcases q2 p hp with h|⟨hwx,h⟩
  exact h1 _ hφ h;exact h3 _ h hφ;refine BG _ _ fun p hp => ?_;rintro rfl;rcases q2 p hp with h|⟨hwx,h⟩
  omega;exact h2 _ (HC h) ⟨a1,a2⟩;rw[Al];have:s∉ex.frz:=fun h=>h2 _ (q3 s h) ⟨a1,a2⟩;simp[this];rw[Al];have hφ:=Yi hww hid;have:id∉ex.frz:=fun h=>h4 _ hφ (q3 id h);simp[this]
 rw[Bd y.op y.type _ _ sy k hput];exact XC hL y.op y.type k hag hl
theorem Vo{ρ ρ':Operand→AV}{o:Op}(h:∀ z∈o.operands,ρ z=ρ' z):Cy ρ o=Cy ρ' o:=by
 unfold Cy;split;rw[h _ (by simp[Op.operands])];rw[h _ (by simp[Op.operands])];rw[h _ (by simp[Op.operands])];rw[h _ (by simp[Op.operands])];rw[h _ (by simp[Op.operands])];rename_i args ts;cases ha:args.toList with
  |nil=>rfl
  |cons s r=>
   have:s∈args:=by
    have:s∈args.toList:=by rw[ha];simp
    simpa using this
   simp only;rw[h s (by simp[Op.operands,Call.operands];exact this)]
 rename_i args ts;cases ha:args.toList with
  |nil=>rfl
  |cons s r=>
   have:s∈args:=by
    have:s∈args.toList:=by rw[ha];simp
    simpa using this
   simp only;rw[h s (by simp[Op.operands,Call.operands];exact this)]
 rfl
theorem Hk{ρ ρ':Operand→AV}{o:Op}(h:∀ z∈o.operands,ρ z=ρ' z):FG ρ o=FG ρ' o:=by
 unfold FG;have key:∀ l:List Operand,(∀ z∈l,ρ z=ρ' z)→(l.flatMap fun x=>Ab (ρ x))=l.flatMap fun x=>Ab (ρ' x):=by
  intro l;induction l with
   |nil=>intro _;rfl
   |cons x l ih=>intro h;rw[Acx,Acx,h x (by simp),ih fun z hz=>h z (by simp[hz])]
 exact key _ fun z hz=>h z (by simpa using hz)
theorem Ys{ρ ρ':Operand→AV}{o:Op}(h:∀ z∈o.operands,ρ z=ρ' z):IJ ρ o=IJ ρ' o:=by
 cases o with
  |store T x y=>simp only[IJ];rw[h x (by simp[Op.operands]),Hk h]
  |move x=>rfl
  |assign x=>rfl
  |pick c a b=>rfl
  |extract x i=>rfl
  |build T ps=>rfl
  |makeFunc f a b=>rfl
  |_=>exact Hk h
theorem Rb{ρ ρ':Operand→AV}{o:Op}(h:∀ z∈o.operands,ρ z=ρ' z):D5 E ρ o=D5 E ρ' o:=by unfold D5;split;rename_i f args ts;rw[h f (by simp[Op.operands,Call.operands])];rfl
theorem E9{H:List Ob}{ρ ρ':Operand→AV}{o:Op}{φ:List Nat}(h:∀ z∈o.operands,ρ z=ρ' z)(hk:Kn E H ρ o φ):Kn E H ρ' o φ:=by
 rcases hk with⟨h0,hk⟩|⟨h1,h2,h3⟩
 refine .inl ⟨h0,?_⟩;have e:MY E ρ o=MY E ρ' o:=by unfold MY;split;rename_i f args ts;rw[h f (by simp[Op.operands,Call.operands])];rfl
 unfold Hf at *;rw[← e,← Hk h];exact hk;rw[Ys h]at h1;rw[Vo h]at h2;rw[Rb h]at h3;exact .inr ⟨h1,h2,h3⟩
theorem J3{R:Type}{o:Op}(h:BX o=true)(ty:TypeId)(ρ:Operand→AV)(H H':List Ob)(fz fz':List Bool)(slot:Nat)(k:AV→Eff→Option R):
  evalOp P E R o ty ρ H fz slot k=evalOp P E R o ty ρ H' fz' slot k:=by cases o<;>first|rfl|(simp only[BX,Ab3]at h)
theorem H7{o:Op}(h:BX o=true)(ty:TypeId)(ρ:Operand→AV)(H:List Ob)(fz:List Bool)(slot:Nat){v:AV}{e:Eff}
  (hk:∀ (R:Type) (k:AV→Eff→Option R),evalOp P E R o ty ρ H fz slot k=k v e):e = {}:=by
 have:=hk Eff (fun _ e=>some e);cases o<;>first|(simp only[BX,Ab3]at h;done)|skip
 all_goals
  simp only[evalOp,Mg,CK,Mf,HS]at this
  repeat' split at this
  all_goals first|(cases this;done)|(simp only[AbZ]at this;exact this.symm)
theorem Iy{o:Op}(h:CP o=true)(ty:TypeId)(ρ:Operand→AV)(H:List Ob)(fz:List Bool)(slot:Nat){v:AV}{e:Eff}
  (hk:∀ (R:Type) (k:AV→Eff→Option R),evalOp P E R o ty ρ H fz slot k=k v e):e = {}:=by
 by_cases hh:BX o=true;exact H7 hh ty ρ H fz slot hk;have:=hk Eff (fun _ e=>some e);cases o with
  |call c=>
   obtain⟨callee,args,ts⟩:=c;cases callee with
    |builtin b=>
     cases b<;>first|(simp only[CP,BX,Ab3]at h;done)|skip
     simp only[evalOp,It]at this;repeat' split at this
     all_goals first|(cases this;done)|(simp only[AbZ]at this;exact this.symm)
    |_=>simp only[CP,BX,Ab3]at h
  |slice T x lo hi mx=>
   cases mx with
    |some m=>simp only[CP,BX,Ab3]at h
    |none=>
     simp only[evalOp,CJ,Ek]at this;repeat' split at this
     all_goals first|(cases this;done)|(simp only[AbZ]at this;exact this.symm)
  |makeFunc fn first cs=>
   cases fn<;>first|(simp only[CP,BX,Ab3]at h;done)|skip
   simp only[evalOp,Dk]at this;repeat' split at this
   all_goals first|(cases this;done)|(simp only[AbZ]at this;exact this.symm)
  |load _ _|convert _ _ _|fieldAddr _ _ _|field _ _ _|indexAddr _ _ _|index _ _ _|nilCheck _|lookup _ _ _ _|build _ _=>
   simp only[evalOp,H9,Ec,Ln,CZ,H8,BF,G3,C9,CO]at this;repeat' split at this
   all_goals first|(cases this;done)|(simp only[AbZ]at this;exact this.symm)
  |_=>first|exact absurd h hh|(simp only[CP,BX,Ab3]at h;done)|exact absurd rfl hh
theorem AKD{H:List Ob}{ρ:Operand→AV}{o:Op}{φ:List Nat}(h:BX o=true)(hk:Kn E H ρ o φ):within (IJ ρ o) φ=true∧JN (Cy ρ o) φ=true∧D5 E ρ o=true:=by rcases hk with⟨_,hk⟩|hk;exfalso;unfold Hf at hk;simp only[Aba]at hk;have:=hk.2;unfold MY at this;split at this;cases h;cases this;exact hk
theorem AER{all:List Oper}{x y:Oper}{φx φy:List Nat}{sx sy:Nat}(hap:apart? all x y=true)(hn:Hl φx=true)(hl:BX y.op=true)
  {st s1 s2:St} (hx:Bv P E all x φx sx st s1) (hy:Bv P E all y φy sy s1 s2):∃ s1',Bv P E all y φy sy st s1'∧Bv P E all x φx sx s1' s2:=by
 have hap':=GR hap;obtain⟨_,hdd,_⟩:=Oper.apart_spec hap;have gx:∀ (v:AV) (H:List Ob) (F:List Bool) (s:St),Bs all y.guard ({ s with heap:=H,frz:=F }.put x.dst v)=Bs all y.guard s:=fun v H F s=>E4 hap s v H F;have gy:∀ (v:AV) (H:List Ob) (F:List Bool) (s:St),Bs all x.guard ({ s with heap:=H,frz:=F }.put y.dst v)=Bs all x.guard s:=fun v H F s=>E4 hap' s v H F;have first:∀ (s1:St),(∀ z∈y.op.operands,Ah s1.tmps z=Ah st.tmps z)→Bs all y.guard s1=Bs all y.guard st→Bv P E all y φy sy s1 s2→∃ vy,Bv P E all y φy sy st (st.put y.dst vy)∧s2=s1.put y.dst vy:=by
  intro s1 hput hg hy;rcases hy with⟨g2,vy,ey,hqy,b3,rfl⟩|⟨g2,rfl⟩
  have he:=H7 hl _ _ _ _ _ b3;subst he;refine⟨vy,.inl ⟨by rw[← hg];exact g2,vy,{},?_,fun R k => ?_,rfl⟩,rfl⟩;rcases hqy with h|⟨h1,h4⟩
  exact .inl h;exact .inr ⟨.inr (AKD hl (E9 hput h1)),h4⟩;rw[← b3 R k,Bd y.op y.type _ _ sy k hput];exact J3 hl _ _ _ _ _ _ _ _;exact⟨A6,.inr ⟨by rw[← hg];exact g2,rfl⟩,rfl⟩
 have put1:∀ (v:AV) (s:St),∀ z∈y.op.operands,Ah (s.put x.dst v).tmps z=Ah s.tmps z:=fun v s z hz=>BW hap s v z hz;rcases hx with⟨g1,vx,ex,hqx,a3,rfl⟩|⟨g1,rfl⟩
 obtain⟨vy,h1,rfl⟩:=first _ (put1 vx (st.app ex)) (gx vx (Bj ex st.heap) (Dc ex st.frz) st) hy
 refine⟨_,h1,.inl ⟨?_,vx,ex,.inl hn,fun R k => ?_,?_⟩⟩;rw[show Bs all x.guard (st.put y.dst vy)=Bs all x.guard st from gy vy st.heap st.frz st];exact g1;have hh:(st.put y.dst vy).heap=st.heap∧(st.put y.dst vy).frz=st.frz:=by cases y.dst<;>exact⟨rfl,rfl⟩
 rw[hh.1,hh.2,Bd x.op x.type _ _ sx k fun z hz=>BW hap' st vy z hz];exact a3 R k;rw[St.Fj,St.put_comm _ vx vy hdd];obtain⟨vy,h1,rfl⟩:=first _ (put1 A6 st) (gx A6 st.heap st.frz st) hy
 refine⟨_,h1,.inr ⟨?_,?_⟩⟩;rw[show Bs all x.guard (st.put y.dst vy)=Bs all x.guard st from gy vy st.heap st.frz st];exact g1;rw[St.put_comm _ A6 vy hdd]
theorem AEQ{all:List Oper}{x y:Oper}{φx φy:List Nat}{sx sy:Nat}(hap:apart? all x y=true)(hn:Hl φy=true)(hl:BX x.op=true)
  {st s1 s2:St} (hx:Bv P E all x φx sx st s1) (hy:Bv P E all y φy sy s1 s2):∃ s1',Bv P E all y φy sy st s1'∧Bv P E all x φx sx s1' s2:=by
 have hap':=GR hap;obtain⟨_,hdd,_⟩:=Oper.apart_spec hap;have gx:∀ (v:AV) (s:St),Bs all y.guard (s.put x.dst v)=Bs all y.guard s:=fun v s=>E4 hap s v s.heap s.frz;have gy:∀ (v:AV) (H:List Ob) (F:List Bool) (s:St),Bs all x.guard ({ s with heap:=H,frz:=F }.put y.dst v)=Bs all x.guard s:=fun v H F s=>E4 hap' s v H F;have hh:∀ v:AV,(st.put x.dst v).heap=st.heap∧(st.put x.dst v).frz=st.frz:=fun v=>by cases x.dst<;>exact⟨rfl,rfl⟩
 have behind:∀ (s:St) (vx:AV),(∀ z∈x.op.operands,Ah s.tmps z=Ah st.tmps z)→Bs all x.guard s=Bs all x.guard st→Bv P E all x φx sx st (st.put x.dst vx)→(∃ v,Bv P E all x φx sx st (st.put x.dst v)):=fun s vx _ _ h=>⟨vx,h⟩
 have xs:∃ vx,s1=st.put x.dst vx∧∀ s:St,(∀ z∈x.op.operands,Ah s.tmps z=Ah st.tmps z)→Bs all x.guard s=Bs all x.guard st→Bv P E all x φx sx s (s.put x.dst vx):=by
  rcases hx with⟨g1,vx,ex,hqx,a3,rfl⟩|⟨g1,rfl⟩
  have he:=H7 hl _ _ _ _ _ a3;subst he;refine⟨vx,rfl,fun s hput hg=>.inl ⟨by rw[hg];exact g1,vx,{},?_,fun R k => ?_,rfl⟩⟩;rcases hqx with h|⟨h1,h4⟩
  exact .inl h;exact .inr ⟨.inr (AKD hl (E9 (fun z hz=>(hput z hz).symm) h1)),h4⟩;rw[← a3 R k,Bd x.op x.type _ _ sx k hput];exact J3 hl _ _ _ _ _ _ _ _;exact⟨A6,rfl,fun s _ hg=>.inr ⟨by rw[hg];exact g1,rfl⟩⟩
 obtain⟨vx,rfl,hxs⟩:=xs;have hput:∀ z∈y.op.operands,Ah (st.put x.dst vx).tmps z=Ah st.tmps z:=fun z hz=>BW hap st vx z hz;rcases hy with⟨g2,vy,ey,hqy,b3,rfl⟩|⟨g2,rfl⟩
 refine⟨(st.app ey).put y.dst vy,.inl ⟨by rw[← gx vx st];exact g2,vy,ey,.inl hn,fun R k => ?_,rfl⟩,?_⟩;have:=b3 R k;rw[(hh vx).1,(hh vx).2,Bd y.op y.type _ _ sy k hput]at this;exact this;have:=hxs ((st.app ey).put y.dst vy) (fun z hz=>BW hap' (st.app ey) vy z hz) (gy vy (Bj ey st.heap) (Dc ey st.frz) st);rw[St.Fj,St.put_comm _ vx vy hdd];exact this;refine⟨st.put y.dst A6,.inr ⟨by rw[← gx vx st];exact g2,rfl⟩,?_⟩;have:=hxs (st.put y.dst A6) (fun z hz=>BW hap' st A6 z hz) (gy A6 st.heap st.frz st);rw[St.put_comm _ vx A6 hdd];exact this
theorem AES(hL:DG E){all:List Oper}{x y:Oper}{φx φy:List Nat}{sx sy:Nat}(hap:apart? all x y=true)(n1:Hl φx=false)(n2:Hl φy=false)(i1:∀ i,rd φy i=true→¬ (sx≤i∧i<sx+slotsOf x.op))(i2:∀ i,rd φx i=true→¬ (sy≤i∧i<sy+slotsOf y.op))(i3:∀ i,wt φx i=true→rd φy i=true→False)(i4:∀ i,wt φy i=true→rd φx i=true→False)(hsl:sx+slotsOf x.op≤sy)
  {st s1 s2:St} (hx:Bv P E all x φx sx st s1) (hy:Bv P E all y φy sy s1 s2):∃ s1',Bv P E all y φy sy st s1'∧Bv P E all x φx sx s1' s2:=by
 have hap':=GR hap;obtain⟨_,hdd,_⟩:=Oper.apart_spec hap;have gx:∀ (v:AV) (H:List Ob) (F:List Bool) (s:St),Bs all y.guard ({ s with heap:=H,frz:=F }.put x.dst v)=Bs all y.guard s:=fun v H F s=>E4 hap s v H F;have gy:∀ (v:AV) (H:List Ob) (F:List Bool) (s:St),Bs all x.guard ({ s with heap:=H,frz:=F }.put y.dst v)=Bs all x.guard s:=fun v H F s=>E4 hap' s v H F;have gxa:∀ v e,Bs all y.guard ((st.app e).put x.dst v)=Bs all y.guard st:=fun v e=>gx v (Bj e st.heap) (Dc e st.frz) st;have gya:∀ v e,Bs all x.guard ((st.app e).put y.dst v)=Bs all x.guard st:=fun v e=>gy v (Bj e st.heap) (Dc e st.frz) st;rcases hx with⟨g1,vx,ex,hqx,a3,rfl⟩|⟨g1,rfl⟩
 obtain⟨a1,a4⟩:=hqx.resolve_left (by rw[n1];simp);rcases hy with⟨g2,vy,ey,hqy,b3,rfl⟩|⟨g2,rfl⟩
 obtain⟨b1,b4⟩:=hqy.resolve_left (by rw[n2];simp);have hput:∀ z∈y.op.operands,Ah ((st.app ex).put x.dst vx).tmps z=Ah st.tmps z:=fun z hz=>BW hap (st.app ex) vx z hz;have b1:=E9 hput b1;have ov:=So (P:=P) hL hap i1 i2 i3 i4 (.inl hsl) (vx:=vx) a4 (.inl b1);refine⟨(st.app ey).put y.dst vy,.inl ⟨by rw[← gxa vx ex];exact g2,vy,ey,.inr ⟨Xk (Ta i1 i3 a4) b1,b4⟩,fun R k=>by rw[← ov R k];exact b3 R k,rfl⟩,?_⟩;have hput':∀ z∈x.op.operands,Ah ((st.app ey).put y.dst vy).tmps z=Ah st.tmps z:=fun z hz=>BW hap' (st.app ey) vy z hz;have ov':=So (P:=P) hL hap' i2 i1 i4 i3 (.inr hsl) (st:=st) (vx:=vy) b4 (.inr a1);refine .inl ⟨by rw[gya vy ey];exact g1,vx,ex,.inr ⟨E9 (fun z hz=>(hput' z hz).symm) (Xk (fun i hi=>(Ta i2 i4 b4 i hi).symm) a1),a4⟩,fun R k=>by rw[ov' R k];exact a3 R k,?_⟩;obtain⟨p1,p2,p3⟩:=IA a4;obtain⟨r1,r2,r3⟩:=IA b4;have hdis:∀ p∈ey.objs,∀ q∈ex.objs,p.1≠q.1:=by
  intro p hp q hq he;rcases r2 p hp with h|⟨hw,h⟩<;>rcases p2 q hq with h'|⟨hw',h'⟩
  omega;exact i2 _ (HC h') (he▸h);exact i1 _ (HC h) (he▸h');exact i3 _ h' (he▸HC h)
 rw[St.Fj,St.Fj,St.put_comm _ vx vy hdd];congr 2;unfold St.app;rw[By p1,By r1,CE p1,CE r1,By r1,By p1,CE r1,CE p1,Vz _ _ hdis,ZA];refine⟨st.put y.dst A6,.inr ⟨by rw[← gxa vx ex];exact g2,rfl⟩,.inl ⟨?_,vx,ex,.inr ⟨?_,a4⟩,fun R k => ?_,?_⟩⟩;rw[show Bs all x.guard (st.put y.dst A6)=Bs all x.guard st from gy A6 st.heap st.frz st];exact g1;have hh:(st.put y.dst A6).heap=st.heap:=by cases y.dst<;>rfl
 rw[hh];exact E9 (fun z hz=>(BW hap' st A6 z hz).symm) a1;have hh:(st.put y.dst A6).heap=st.heap∧(st.put y.dst A6).frz=st.frz:=by cases y.dst<;>exact⟨rfl,rfl⟩
 rw[hh.1,hh.2,Bd x.op x.type _ _ sx k fun z hz=>BW hap' st A6 z hz];exact a3 R k;rw[St.Fj,St.put_comm _ vx A6 hdd];rcases hy with⟨g2,vy,ey,hqy,b3,rfl⟩|⟨g2,rfl⟩
 obtain⟨b1,b4⟩:=hqy.resolve_left (by rw[n2];simp);have hh:(st.put x.dst A6).heap=st.heap∧(st.put x.dst A6).frz=st.frz:=by cases x.dst<;>exact⟨rfl,rfl⟩
 rw[hh.1]at b1;have hput:∀ z∈y.op.operands,Ah (st.put x.dst A6).tmps z=Ah st.tmps z:=fun z hz=>BW hap st A6 z hz;have b1:=E9 hput b1;refine⟨(st.app ey).put y.dst vy,.inl ⟨by rw[← show Bs all y.guard (st.put x.dst A6)=Bs all y.guard st from gx A6 st.heap st.frz st];exact g2,vy,ey,.inr ⟨b1,b4⟩,fun R k => ?_,rfl⟩,.inr ⟨by rw[gya vy ey];exact g1,?_⟩⟩;have:=b3 R k;rw[hh.1,hh.2,Bd y.op y.type _ _ sy k hput]at this;exact this;rw[St.Fj,St.put_comm _ A6 vy hdd]
 exact⟨st.put y.dst A6,.inr ⟨by rw[← show Bs all y.guard (st.put x.dst A6)=Bs all y.guard st from gx A6 st.heap st.frz st];exact g2,rfl⟩,
  .inr ⟨by rw[show Bs all x.guard (st.put y.dst A6)=Bs all x.guard st from gy A6 st.heap st.frz st];exact g1,St.put_comm _ A6 A6 hdd⟩⟩
def AKB(H H':List Ob)(id:Nat):Prop:=(∃ a b es,H[id]? = some (.map a b es))∧∃ a b es,H'[id]? = some (.map a b es)
theorem Dx{H H':List Ob}(h:∀ id,H[id]? = H'[id]?∨AKB H H' id)(t:Ty)(v:AV):DD H t v=DD H' t v:=by
 cases v<;>simp only[DD];rename_i id;rcases h id with h|⟨⟨a,b,es,h1⟩,a',b',es',h2⟩
 rw[h];rw[h1,h2];rename_i id off n;rcases h id with h|⟨⟨a,b,es,h1⟩,a',b',es',h2⟩
 rw[h];rw[h1,h2];rename_i id;rcases h id with h|⟨⟨a,b,es,h1⟩,a',b',es',h2⟩
 rw[h];rw[h1,h2]
theorem ANY{α:Type}{one one':List AV→Option (α×List Nat×List AV)}(h1:∀ cs,one cs=one' cs):∀ (n:Nat) (cs:List AV),LM one n cs=LM one' n cs:=by
 intro n;induction n with
  |zero=>intro cs;rfl
  |succ n ih=>
   intro cs;simp only[LM];rw[← h1 cs];cases one cs with
    |none=>rfl
    |some p=>obtain⟨x,f,r⟩:=p;simp only[ih]
theorem Ww{H H':List Ob}(h:∀ id,H[id]? = H'[id]?∨AKB H H' id):∀ (t:Ty) (cs:List AV),Ac H t cs=Ac H' t cs:=by
 intro t;induction t with
  |unit=>intro cs;cases cs<;>rfl
  |bool=>intro cs;cases cs with
   |nil=>rfl
   |cons c cs=>unfold Ac;rw[Dx h .bool c]
  |int k=>intro cs;cases cs with
   |nil=>rfl
   |cons c cs=>unfold Ac;rw[Dx h (.int k) c]
  |slice e _=>intro cs;cases cs with
   |nil=>rfl
   |cons c cs=>unfold Ac;rw[Dx h (.slice e) c]
  |nul e=>intro cs;cases cs with
   |nil=>rfl
   |cons c cs=>unfold Ac;rw[Dx h (.nul e) c]
  |mapi j e _=>intro cs;cases cs with
   |nil=>rfl
   |cons c cs=>unfold Ac;rw[Dx h (.mapi j e) c]
  |prod a b iha ihb=>
   intro cs;simp only[Ac];rw[← iha cs];cases Ac H a cs with
    |none=>rfl
    |some p=>obtain⟨x,f,r⟩:=p;simp only[ihb]
  |arr n e ih=>intro cs;simp only[Ac];exact ANY ih n cs
theorem AO4{H H':List Ob}(h:∀ id,H[id]? = H'[id]?∨AKB H H' id)(t:Ty)(v:AV):Dn H t v=Dn H' t v:=by unfold Dn;split;cases v<;>simp only[asAgg];rename_i cs;rw[Ww h t cs];exact Dx h t v
theorem ANL{α β:Type}[DecidableEq α](es:List (α×β))(k j:α)(z:β):(AO (Ao es k ((AO es k).getD z)) j).getD z=(AO es j).getD z:=by
 have key:∀ (es:List (α×β)) (v:β),AO (Ao es k v) j=if j=k then some v else AO es j:=by
  intro es v;induction es with
   |nil=>simp only[Ao,AO];by_cases h:j=k;rw[AcO h,AcO h.symm];rw[Acg h,Acg (Ab9 h)]
   |cons e es ih=>obtain⟨a,x⟩:=e;by_cases h1:a=k;subst h1;simp only[Ao,AO,if_true];by_cases h:j=a;rw[AcO h,AcO h.symm];rw[Acg h,Acg (Ab9 h),Acg (Ab9 h)];simp only[Ao,AO,h1,Acr,ih];by_cases h:a=j;subst h;rw[AcO rfl,Acg h1,AcO rfl];rw[Acg h,Acg h]
 rw[key];by_cases h:j=k;rw[AcO h,h];rfl;rw[Acg h]
theorem Wj{R:Type}{H:List Ob}{j:Nat}{a b:Ty}{es es':List (a.den×b.den)}(hj:H[j]? = some (.map a b es))(hval:∀ key:a.den,(AO (α:=a.den) es' key).getD b.zero=(AO (α:=a.den) es key).getD b.zero)
  (T:TypeId) (m x:Operand) (ty:TypeId) (ρ:Operand→AV) (fz fz':List Bool) (slot slot':Nat) (kk:AV→Eff→Option R) :
  evalOp P E R (.lookup T m x false) ty ρ (H.set j (.map a b es')) fz' slot' kk=evalOp P E R (.lookup T m x false) ty ρ H fz slot kk:=by
 have hlt:=AY hj;have hm:∀ id,(H.set j (.map a b es'))[id]? = H[id]?∨AKB (H.set j (.map a b es')) H id:=fun id=>by by_cases hid:id=j;subst hid;exact .inr ⟨⟨a,b,es',Ak hlt⟩,a,b,es,hj⟩;exact .inl (AR hid)
 simp only[evalOp,C9,AO4 hm];cases P.underlying T with
  |none=>rfl
  |some d=>
   cases d with
    |map kt vt=>
     by_cases hmp:∃ id,ρ m = .mp id
     case neg=>
      cases hv:ρ m with
      |data t d=>cases t<;>rfl
      |mp id=>exact absurd ⟨id,hv⟩ hmp
      |_=>rfl
     obtain⟨id,hv⟩:=hmp;rw[hv];dsimp only;by_cases hid:id=j;subst hid;rw[Ak hlt,hj];dsimp only;cases decide (NK P kt=some a)with
      |false=>rfl
      |true=>cases zeroAt P vt with
       |none=>rfl
       |some z=>
        obtain⟨b',zc⟩:=z
        dsimp only
        cases decide (b'=b)with
        |false=>rfl
        |true=>cases Dn H a (ρ x)with
         |none=>rfl
         |some p=>
          obtain⟨key,f⟩:=p
          dsimp only
          rw[hval key]
     rw[AR hid]
    |_=>rfl
theorem Wg{H:List Ob}{fz:List Bool}{T:TypeId}{m x:Operand}{ty:TypeId}{ρ:Operand→AV}{slot:Nat}{v:AV}{e:Eff}(h:∀ (R:Type) (k:AV→Eff→Option R),evalOp P E R (.mapEntry T m x) ty ρ H fz slot k=k v e):
  ∃ id a b es,∃ key:a.den,H[id]? = some (.map a b es)∧e = { objs:=[(id,.map a b (Ao (α:=a.den) es key ((AO (α:=a.den) es key).getD b.zero)))] }:=by have:=h Eff (fun _ e=>some e);simp only[evalOp,Eb]at this;split at this;split at this;rename_i id _ _ a b es ho;split at this;split at this;simp only[AbZ]at this;exact⟨_,_,_,_,_,ho,this.symm⟩;cases this;cases this;cases this;cases this
theorem AKC{H H':List Ob}{ρ:Operand→AV}{o:Op}{φ:List Nat}(hw:IU φ=false)(hk:Kn E H ρ o φ):Kn E H' ρ o φ:=by rcases hk with⟨h1,_⟩|hk;rw[hw]at h1;cases h1;exact .inr hk
theorem AEP{all:List Oper}{x y:Oper}{φx φy:List Nat}{sx sy:Nat}(hap:apart? all x y=true)(w1:IU φx=false)(w2:IU φy=false)(hm:Og x.op y.op=true)
  {st s1 s2:St} (hx:Bv P E all x φx sx st s1) (hy:Bv P E all y φy sy s1 s2):∃ s1',Bv P E all y φy sy st s1'∧Bv P E all x φx sx s1' s2:=by
 have hap':=GR hap;obtain⟨_,hdd,_⟩:=Oper.apart_spec hap;obtain⟨T,m,kx,ok,hxo,T',m',ky,hyo,hok⟩:∃ T m kx ok,x.op = .lookup T m kx ok∧∃ T' m' ky,y.op = .mapEntry T' m' ky∧ok=false:=by cases hxo:x.op<;>cases hyo:y.op<;>rw[hxo,hyo]at hm<;>simp only[Og,Ab3]at hm;exact⟨_,_,_,_,rfl,_,_,_,rfl,by simpa using hm⟩
 subst hok;have gx:∀ (v:AV) (s:St),Bs all y.guard (s.put x.dst v)=Bs all y.guard s:=fun v s=>E4 hap s v s.heap s.frz;have gy:∀ (v:AV) (H:List Ob) (F:List Bool) (s:St),Bs all x.guard ({ s with heap:=H,frz:=F }.put y.dst v)=Bs all x.guard s:=fun v H F s=>E4 hap' s v H F;have hh:∀ v:AV,(st.put x.dst v).heap=st.heap∧(st.put x.dst v).frz=st.frz:=fun v=>by cases x.dst<;>exact⟨rfl,rfl⟩
 have xs:∃ vx,s1=st.put x.dst vx∧∀ s:St,(∀ z∈x.op.operands,Ah s.tmps z=Ah st.tmps z)→Bs all x.guard s=Bs all x.guard st →
   (s.heap=st.heap∨∃ j a b es es',st.heap[j]? = some (.map a b es)∧s.heap=st.heap.set j (.map a b es')∧∀ key:a.den,(AO (α:=a.den) es' key).getD b.zero=(AO (α:=a.den) es key).getD b.zero)→Bv P E all x φx sx s (s.put x.dst vx):=by
  rcases hx with⟨g1,vx,ex,hqx,a3,rfl⟩|⟨g1,rfl⟩
  ·have he:=Iy (by rw[hxo];rfl) _ _ _ _ _ a3
   subst he
   refine⟨vx,rfl,fun s hput hg hH=>.inl ⟨by rw[hg];exact g1,vx,{},?_,fun R k => ?_,rfl⟩⟩
   ·rcases hqx with h|⟨h1,h4⟩
    ·exact .inl h
    ·exact .inr ⟨AKC w1 (E9 (fun z hz=>(hput z hz).symm) h1),h4⟩
   ·rw[← a3 R k,Bd x.op x.type _ _ sx k hput]
    rcases hH with hH|⟨j,a,b,es,es',h1,h2,h3⟩
    ·rw[hH,hxo];rfl
    ·rw[h2,hxo]
     exact Wj h1 h3 _ _ _ _ _ _ _ _ _ _
  ·exact⟨A6,rfl,fun s _ hg _=>.inr ⟨by rw[hg];exact g1,rfl⟩⟩
 obtain⟨vx,rfl,hxs⟩:=xs;have hput:∀ z∈y.op.operands,Ah (st.put x.dst vx).tmps z=Ah st.tmps z:=fun z hz=>BW hap st vx z hz;rcases hy with⟨g2,vy,ey,hqy,b3,rfl⟩|⟨g2,rfl⟩
 have b3':∀ (R:Type) (k:AV→Eff→Option R),evalOp P E R y.op y.type (Ah st.tmps) st.heap st.frz sy k=k vy ey:=fun R k=>by have:=b3 R k;rw[(hh vx).1,(hh vx).2,Bd y.op y.type _ _ sy k hput]at this;exact this
 refine⟨(st.app ey).put y.dst vy,.inl ⟨by rw[← gx vx st];exact g2,vy,ey,?_,b3',rfl⟩,?_⟩;rcases hqy with h|⟨h1,h4⟩
 exact .inl h;exact .inr ⟨AKC w2 (E9 hput h1),h4⟩;rw[hyo]at b3';obtain⟨j,a,b,es,key,ho,rfl⟩:=Wg b3'
 have:=hxs ((st.app { objs:=[(j,.map a b (Ao (α:=a.den) es key ((AO (α:=a.den) es key).getD b.zero)))] }).put y.dst vy) (fun z hz=>BW hap' (st.app _) vy z hz) (gy vy _ _ st)
  (.inr ⟨j,a,b,es,_,ho,by cases y.dst<;>rfl,fun k=>ANL (α:=a.den) es key k b.zero⟩)
 rw[St.Fj,St.put_comm _ vx vy hdd];exact this;refine⟨st.put y.dst A6,.inr ⟨by rw[← gx vx st];exact g2,rfl⟩,?_⟩;have:=hxs (st.put y.dst A6) (fun z hz=>BW hap' st A6 z hz) (gy A6 st.heap st.frz st) (.inl (by cases y.dst<;>rfl));rw[St.put_comm _ vx A6 hdd];exact this
theorem ALf(hL:DG E){all:List Oper}{x y:Oper}{φx φy:List Nat}{sx sy:Nat}(hin:indep all x y φx φy sx sy=true)(hsl:sx+slotsOf x.op≤sy)
  {st s1 s2:St} (hx:Bv P E all x φx sx st s1) (hy:Bv P E all y φy sy s1 s2):∃ s1',Bv P E all y φy sy st s1'∧Bv P E all x φx sx s1' s2:=by
 obtain⟨hap,h⟩:=Il hin;rcases h with⟨w1,w2,hm⟩|⟨h1,h2⟩|⟨h1,h2⟩|⟨n1,n2,i1,i2,i3,i4⟩
 exact AEP hap w1 w2 hm hx hy;exact AER hap h1 h2 hx hy;exact AEQ hap h1 h2 hx hy;exact AES hL hap n1 n2 i1 i2 i3 i4 hsl hx hy
end
end Go.Pev
end
section
namespace Go.Pev
open Go.RowKit
section
variable [DfI] {P:Program} {E:Env}
theorem AAd{all:List Oper}{y:Oper}{φy:List Nat}{sy:Nat}:∀ {l:List (Nat×Oper×List Nat×Nat)},Oe all y φy sy l=true→∀ q∈l,reach all 8 y q.1=true∨indep all q.2.1 y q.2.2.1 φy q.2.2.2 sy=true:=by
 intro l;induction l with
  |nil=>intro _ q hq;cases hq
  |cons p l ih=>intro h q hq;obtain⟨i,x,φx,sx⟩:=p;simp only[Oe,Aba,AcC]at h;rcases AcH.1 hq with rfl|hq;rcases h.1 with h1|h1|h1;exact .inl (by simp only[reach,h1,Bool.true_or]);exact .inr h1;exact .inl h1;exact ih h.2 q hq
theorem K9{all:List Oper}{fp:List (List Nat)}{base:Nat}:∀ (rest pre:List Oper) (fp':List (List Nat)) (slot:Nat) (acc:List (Nat×Oper×List Nat×Nat)),all=pre++rest→fp'=fp.drop pre.length→slot=Aw all base pre.length →
  (∀ j x,j<pre.length→all[j]? = some x→(j,x,fp.getD j [],Aw all base j)∈acc)→Pm all rest fp' pre.length slot acc=true →
  ∀ i y,pre.length≤i→all[i]? = some y→(∀ e∈y.after.toList,Region.binds .any e=true→e.on<i) ∧
   ∀ j x,j<i→all[j]? = some x→reach all 8 y j=true∨indep all x y (fp.getD j []) (fp.getD i []) (Aw all base j) (Aw all base i)=true:=by
 intro rest;induction rest with
  |nil=>intro pre fp' slot acc hall _ _ _ _ i y hi hy;rw[hall,AcE,Abo hi]at hy;cases hy
  |cons o rest ih=>
   intro pre fp' slot acc hall hfp hsl hacc h i y hi hy;simp only[Pm,Aba]at h;obtain⟨⟨h1,h2⟩,h3⟩:=h;have hlen:(pre++[o]).length=pre.length+1:=by simp
   have hfp1:fp'.headD []=fp.getD pre.length []:=by rw[hfp,Abi,AdX,AdW]
   have hfp2:fp'.tail=fp.drop (pre++[o]).length:=by rw[hfp,hlen,List.tail_drop]
   have hs2:slot+slotsOf o.op=Aw all base (pre++[o]).length:=by
    rw[hsl,hlen];unfold Aw;have e1:all.take (pre.length+1)=pre++[o]:=by rw[hall,Aci,AcD (by omega)];simp
    have e2:all.take pre.length=pre:=by rw[hall];simp
    rw[e1,e2,GB];simp[Bn];omega
   have ho:all[pre.length]? = some o:=by rw[hall];simp
   rcases Abv pre.length i with hlt|hge;refine ih (pre++[o]) _ _ _ (by rw[hall];simp) hfp2 hs2 (fun j x hj hx => ?_) (by rw[hlen];exact h3) i y (by rw[hlen];exact hlt) hy;rw[hlen]at hj;by_cases hjp:j=pre.length;subst hjp;rw[ho]at hx;cases hx;rw[hfp1,hsl];simp;exact List.mem_cons_of_mem _ (hacc j x (by omega) hx);have hip:i=pre.length:=by omega
   subst hip;rw[ho]at hy;cases hy;refine⟨fun e he hb => ?_,fun j x hj hx => ?_⟩;rw[Abk]at h2;have:=h2 e he;rw[hb]at this;simpa using this;rw[hfp1,hsl]at h1;exact AAd h1 _ (hacc j x hj hx)
theorem ALi{all:List Oper}{base i j:Nat}{x:Oper}(hij:j<i)(hx:all[j]? = some x):Aw all base j+slotsOf x.op≤Aw all base i:=by
 unfold Aw;have hjl:j<all.length:=by rcases Abv j all.length with h|h;exact h;rw[Abo h]at hx;cases hx
 have e:all.take (j+1)=all.take j++[x]:=by rw[List.take_succ_eq_append_getElem hjl];rw[Abg hjl]at hx;cases hx;rfl
 have e2:all.take i=all.take (j+1)++(all.drop (j+1)).take (i-(j+1)):=by rw[← List.take_add];congr 1;omega
 rw[e2,e,GB,GB];simp[Bn];omega
theorem I9(hL:DG E){all:List Oper}{fp:Nat→List Nat}{base:Nat}{i:Nat}{y:Oper}(hy:all[i]? = some y):
  ∀ (l1 l2:List Nat) (st st':St),(∀ j∈l1,j<i∧∀ x,all[j]? = some x→indep all x y (fp j) (fp i) (Aw all base j) (Aw all base i)=true) →
   FV P E all fp (Aw all base) (l1++i::l2) st st'→FV P E all fp (Aw all base) (i::(l1++l2)) st st':=by
 intro l1;induction l1 with
  |nil=>intro l2 st st' _ h;exact h
  |cons j l1 ih=>intro l2 st st' hj h;obtain⟨x,s1,hx,h1,h2⟩:=h;obtain⟨y',s2,hy',h3,h4⟩:=ih l2 s1 st' (fun k hk=>hj k (by simp[hk])) h2;rw[hy]at hy';cases hy';obtain⟨hlt,hin⟩:=hj j (by simp);obtain⟨s1',h5,h6⟩:=ALf hL (hin x hx) (ALi hlt hx) h1 h3;exact⟨y,s1',hy,h5,x,s2,hx,h6,h4⟩
def AU(n:Nat)(listed:Array Bool):List Nat:=(List.range n).filter fun i => !listed.getD i true
theorem Kw{n:Nat}{listed:Array Bool}{i:Nat}(hs:listed.size=n)(l1 l2:List Nat)(h:AU n listed=l1++i::l2):AU n (listed.setIfInBounds i true)=l1++l2:=by
 have hnd:(AU n listed).Nodup:=AdR _ List.nodup_range;have hmem:i∈AU n listed:=by rw[h];simp
 have hin:i<n:=by unfold AU at hmem;simpa using (AcM.1 hmem).1
 have e:AU n (listed.setIfInBounds i true)=(AU n listed).filter fun j=>decide (j≠i):=by
  unfold AU;rw[List.filter_filter];apply List.filter_congr;intro j hj;have hjn:j<n:=by simpa using hj
  by_cases hji:j=i;subst hji;simp[Abm,hs,hjn];simp[Abm,AdC (Ab9 hji),hji]
 rw[e,h];rw[h]at hnd;rw[List.nodup_append]at hnd;obtain⟨_,hn2,hd⟩:=hnd;rw[Ac3,List.filter_cons];simp only[ne_eq,AcR,Acb,Ab3,Acr];rw[AdB.2,AdB.2];intro j hj;have:j≠i:=by rintro rfl;exact(List.nodup_cons.1 hn2).1 hj
 simp[this];intro j hj;have:j≠i:=hd j hj i (by simp);simp[this]
theorem II{n:Nat}{listed:Array Bool}{i:Nat}{l1 l2:List Nat}(h:AU n listed=l1++i::l2):∀ j∈l1,j<i:=by
 have hp:(AU n listed).Pairwise (· < ·):=AdR _ AdZ
 rw[h,List.pairwise_append]at hp;intro j hj;exact hp.2.2 j hj i (by simp)
def Mz(ops:List Oper)(listed:Nat→Bool):Prop:=∀ k z,ops[k]? = some z→listed k=true→∀ e∈z.after.toList,Region.binds .any e=true→listed e.on=true
theorem K4{ops:List Oper}{listed:Nat→Bool}(hc:Mz ops listed):∀ (n:Nat) (y:Oper) (j:Nat),(∀ e∈y.after.toList,Region.binds .any e=true→listed e.on=true)→reach ops n y j=true→listed j=true:=by
 intro n;induction n with
  |zero=>intro y j _ h;cases h
  |succ n ih=>intro y j hy h;simp only[reach,AcC]at h;rcases h with h|h;unfold W1 at h;rw[List.any_eq_true]at h;obtain⟨e,he,hbe⟩:=h;simp only[Aba,Abb]at hbe;have:=hy e he hbe.1;rwa [hbe.2]at this;rw[List.any_eq_true]at h;obtain⟨e,he,hbe⟩:=h;simp only[Aba]at hbe;obtain⟨h1,h2⟩:=hbe;split at h2;rename_i z hz;exact ih z j (hc e.on z hz (hy e he h1)) h2;cases h2
theorem Vv(hE:∀ g,Ad P g (E.spec g)){ops:Array Oper}{i:Nat}{o:Oper}{φ:List Nat}{slot:Nat}{st s1:St}{Q:Exit→Act→World→Prop}{K:Act→World→Prop}{w:World}{F:Nat→Prop}{m:Mp}{a:Act}(hgi:ops[i]? = some o)(h1:Bv P E ops.toList o φ slot st s1)(hs:SI w F m st a)
  (hk:∀ a' w' F' m',SI w' F' m' s1 a'→Ext w F m st.heap st.frz w' F' m' s1.heap s1.frz→K a' w'):wpOp P ops Q i K a w:=by
 unfold wpOp;rw[hgi];simp only;have hput:∀ (s:St) (v:AV),(s.put o.dst v).heap=s.heap∧(s.put o.dst v).frz=s.frz:=fun s v=>by cases o.dst<;>exact⟨rfl,rfl⟩
 rcases h1 with⟨hg,v,e,_,b3,rfl⟩|⟨hg,rfl⟩
 have hw:Region.wanted o (yielded ops a.tmps)=true:=by
  unfold Bs at hg;unfold Region.wanted;cases hgd:o.guard with
   |none=>rfl
   |some p=>
    obtain⟨j,want⟩:=p;rw[hgd]at hg;dsimp only at hg ⊢;cases hj:(ops.toList[j]?).bind (·.dst)with
     |none=>rw[hj]at hg;cases hg
     |some d=>rw[hj]at hg;dsimp only at hg;split at hg;rename_i b hd;rw[KG hs hj hd];simpa using hg;simp at hg;cases hg
 rw[AcO hw];left;obtain⟨v',e',c1,_,c3⟩:=DP hE o.op (AV×Eff) o.type (Ah st.tmps) st.heap st.frz slot (fun v e=>some (v,e)) (v,e) (b3 _ _);simp only[AbZ,Abf]at c1;obtain⟨rfl,rfl⟩:=c1;refine c3 w F m a o _ Q rfl rfl hs.heap (fun x=>Db hs.tmps x) fun u w' F' m' hgo hr => ?_;refine hk _ w' F' m' ((hs.go hgo).put hr o.dst) ?_;rw[(hput ..).1,(hput ..).2];exact hgo.1;have hw:Region.wanted o (yielded ops a.tmps)=false:=by
  unfold Bs at hg;unfold Region.wanted;cases hgd:o.guard with
   |none=>rw[hgd]at hg;cases hg
   |some p=>
    obtain⟨j,want⟩:=p;rw[hgd]at hg;dsimp only at hg ⊢;cases hj:(ops.toList[j]?).bind (·.dst)with
     |none=>rw[hj]at hg;cases hg
     |some d=>rw[hj]at hg;dsimp only at hg;split at hg;rename_i b hd;rw[KG hs hj hd];simpa using hg;rename_i hd;rw[Kp hs hj hd];rfl;cases hg
 rw[Acg (by simp[hw])];refine hk _ w F m (hs.put K0 o.dst) ?_;rw[(hput ..).1,(hput ..).2];exact Ext.refl ..
theorem Tu(hE:∀ g,Ad P g (E.spec g))(hL:DG E){ops:Array Oper}{fp:Nat→List Nat}{base:Nat}{Q:Exit→Act→World→Prop}{st':St}
  (hok:∀ i y,ops.toList[i]? = some y→(∀ e∈y.after.toList,Region.binds .any e=true→e.on<i) ∧
   ∀ j x,j<i→ops.toList[j]? = some x→reach ops.toList 8 y j=true∨indep ops.toList x y (fp j) (fp i) (Aw ops.toList base j) (Aw ops.toList base i)=true) :
  ∀ (fuel:Nat) (listed:Array Bool) (st:St) (w:World) (F:Nat→Prop) (m:Mp) (a:Act),listed.size=ops.size→Mz ops.toList (fun i=>listed.getD i false)→(AU ops.size listed).length≤fuel→SI w F m st a →
   FV P E ops.toList fp (Aw ops.toList base) (AU ops.size listed) st st' →
   (∀ a' w' F' m',SI w' F' m' st' a'→Ext w F m st.heap st.frz w' F' m' st'.heap st'.frz→Q .normal a' w')→wpAny P .any ops Q fuel listed a w:=by
 intro fuel
 have hdone:∀ (listed:Array Bool) (st:St) (w:World) (F:Nat→Prop) (m:Mp) (a:Act),AU ops.size listed=[]→SI w F m st a→FV P E ops.toList fp (Aw ops.toList base) (AU ops.size listed) st st' →
   (∀ a' w' F' m',SI w' F' m' st' a'→Ext w F m st.heap st.frz w' F' m' st'.heap st'.frz→Q .normal a' w')→Q .normal a w:=by
  intro listed st w F m a h0 hs hc hq
  rw[h0]at hc
  have hc:st=st':=hc
  subst hc
  exact hq a w F m hs (Ext.refl ..)
 have hready:∀ (listed:Array Bool) (i:Nat),i∈Region.ready .any ops listed↔i∈AU ops.size listed∧((ops[i]?).map (·.after.all fun e => !Region.binds .any e||listed.getD e.on false)).getD false=true:=by intro listed i;unfold Region.ready AU;simp only[AcM,Aba,List.mem_range];exact⟨fun ⟨h1,h2,h3⟩=>⟨⟨h1,h2⟩,h3⟩,fun ⟨⟨h1,h2⟩,h3⟩=>⟨h1,h2,h3⟩⟩
 induction fuel with
  |zero=>intro listed st w F m a hsz hcl hl hs hc hq;have h0:AU ops.size listed=[]:=Abh (by omega);refine⟨List.eq_nil_iff_forall_not_mem.2 fun i hi => ?_,hdone listed st w F m a h0 hs hc hq⟩;have:=((hready listed i).1 hi).1;rw[h0]at this;cases this
  |succ fuel ih=>
   intro listed st w F m a hsz hcl hl hs hc hq;refine⟨fun hnil => ?_,fun i hi => ?_⟩;refine hdone listed st w F m a ?_ hs hc hq;cases hu:AU ops.size listed with
    |nil=>rfl
    |cons i l=>
     exfalso;have hmem:i∈AU ops.size listed:=by rw[hu];simp
     have hin:i<ops.size:=by unfold AU at hmem;simpa using (AcM.1 hmem).1
     have:i∈Region.ready .any ops listed:=by
      refine(hready listed i).2 ⟨hmem,?_⟩;rw[Abw hin];simp only[Aco,AcV];rw[← Adc,Abk];intro e he;cases hb:Region.binds .any e with
       |false=>rfl
       |true=>
        have hlt:=(hok i ops[i] (by simp[hin])).1 e he hb;simp only[AdS,Acy];cases hg:listed.getD e.on false with
         |true=>rfl
         |false=>
          exfalso;have hon:e.on<ops.size:=by omega
          have:e.on∈AU ops.size listed:=by
           unfold AU;rw[AcM];refine⟨by simpa using hon,?_⟩;have hlt':e.on<listed.size:=by omega
           rw[Abm,Abw hlt']at hg ⊢;simpa using hg
          rw[hu]at this;have hp:(AU ops.size listed).Pairwise (· < ·):=AdR _ AdZ
          rw[hu,List.pairwise_cons]at hp;rcases AcH.1 this with h|h;omega;have:=hp.1 _ h;omega
     rw[hnil]at this;cases this
   obtain⟨hmem,hrd⟩:=(hready listed i).1 hi;have hin:i<ops.size:=by unfold AU at hmem;simpa using (AcM.1 hmem).1
   obtain⟨l1,l2,hsplit⟩:=List.append_of_mem hmem;have hgi:ops[i]? = some ops[i]:=Abw hin;have hgl:ops.toList[i]? = some ops[i]:=by simp[hin]
   rw[hgi]at hrd;simp only[Aco,AcV]at hrd;rw[← Adc,Abk]at hrd;rw[hsplit]at hc;obtain⟨y,s1,hy,h1,h2⟩:=I9 hL hgl l1 l2 st st' (fun j hj=>by
    have hji:=II hsplit j hj;refine⟨hji,fun x hx => ?_⟩;rcases(hok i _ hgl).2 j x hji hx with h|h;exfalso;have hall:∀ e∈(ops[i]).after.toList,Region.binds .any e=true→(fun i=>listed.getD i false) e.on=true:=by intro e he hb;have:=hrd e he;rw[hb]at this;simpa using this
    have this:=K4 hcl 8 _ j hall h;have hju:j∈AU ops.size listed:=by rw[hsplit];simp[hj]
    unfold AU at hju;have h3:=(AcM.1 hju).2;have hjl:j<listed.size:=by omega
    rw[Abm,Abw hjl]at this h3;simp only[AcV]at this h3;rw[this]at h3;cases h3;exact h) hc
   rw[hgl]at hy;cases hy;have hnext:=Kw hsz l1 l2 hsplit;have hlen:(AU ops.size (listed.setIfInBounds i true)).length≤fuel:=by rw[hnext];rw[hsplit]at hl;simp only[Abl,Abz]at hl ⊢;omega
   have hcl2:Mz ops.toList (fun k=>(listed.setIfInBounds i true).getD k false):=by
    have hset:∀ k,(listed.setIfInBounds i true).getD k false=true↔(k=i∨listed.getD k false=true):=by
     intro k;have hil:i<listed.size:=by omega
     rw[Abm,Abm,Array.getElem?_setIfInBounds];by_cases hki:i=k;subst hki;simp[hil];simp[hki,Ab9 hki]
    intro k z hz hk e he hb;simp only[hset]at hk ⊢;right;rcases hk with rfl|hk;rw[hgl]at hz;cases hz;have:=hrd e he;rw[hb]at this;simpa using this;exact hcl k z hz hk e he hb
   exact Vv hE hgi h1 hs fun a' w' F' m' hs2 hx=>ih _ _ w' F' m' a' (by simp[hsz]) hcl2 hlen hs2 (by rw[hnext];exact h2) fun a' w2 F2 m2 q1 q2=>hq a' w2 F2 m2 q1 (hx.trans q2)
theorem SI.drew{w:World}{F:Nat→Prop}{m:Mp}{st:St}{a:Act}(h:SI w F m st a):SI w.drew F m st a∧Ext w F m st.heap st.frz w.drew F m st.heap st.frz:=by have hg:=Aa.drew h.heap;exact⟨⟨fun t=>hg.1.rep h.heap (h.tmps t),h.size,hg.2,h.defers⟩,hg.1⟩
theorem RX(hE:∀ g,Ad P g (E.spec g))(hL:DG E){R:Type}{r:R}{id:Nat}{fp:List (List Nat)}{ops:Array Oper}{Q:Exit→Act→World→Prop}{k:St→Option R}{st:St}{w:World}{F:Nat→Prop}{m:Mp}{a:Act}
  (h:Dh P E R fp ops.toList st k=some r) (hs:SI w F m st a) (hq:∀ a' w',AYy r k w F m st.heap st.frz a' w'→Q .normal a' w'):(Code.region id ops true).wp P Q a w:=by
 unfold Dh at h;rw[J1]at h;split at h;rename_i hok;simp only[Aba]at hok;obtain⟨hm,hok⟩:=hok;obtain⟨hs1,he1⟩:=hs.drew;obtain⟨hs2,he2⟩:=hs1.pad (Bn ops.toList);have hnn:ops.toList=[]++ops.toList:=by simp
 obtain⟨st',hc,hk⟩:=RZ hE (all:=ops.toList) (fp:=fp) (base:=st.heap.length) ops.toList [] fp st.heap.length _ hnn rfl (by simp[Aw,Bn]) h;refine wp_region_any hm ?_;have hu:AU ops.size (Array.replicate ops.size false)=List.range' 0 ops.toList.length:=by
  unfold AU;rw[Abe,← Ac8];rw[AdB];intro i hi;have:i<ops.size:=by simpa using hi
  simp[Abm,this]
 refine Tu (ops:=ops) hE hL (fp:=fun i=>fp.getD i []) (base:=st.heap.length) (st':=st') (fun i y hy=>K9 (all:=ops.toList) ops.toList [] fp _ [] hnn rfl (by simp[Aw,Bn]) (fun j x hj=>by simp at hj) hok i y (Nat.zero_le _) hy)
  ops.size _ _ w.drew F m a (by simp) (fun k z _ hk=>by
   exfalso
   have hk:(Array.replicate ops.size false).getD k false=true:=hk
   rw[Abm,Array.getElem?_replicate]at hk
   split at hk<;>cases hk) (by rw[hu];simp) hs2 (by rw[hu];exact hc) fun a' w' F' m' q1 q2=>hq a' w' ⟨st',F',m',hk,q1,he1.trans (he2.trans q2)⟩
 cases h
end
end Go.Pev
end
section
namespace Go.Pev
open Go.RowKit
def A4(w:World)(F:Nat→Prop)(m:Mp)(H:List Ob)(fz:List Bool)(m':Mp)(H':List Ob)(j:Nat):Bnd→Prop
 |.none=>m' j=none∧((∃ T e,H'[j]? = some (.arr T e [])∧0<e.size)∨∃ T t,H'[j]? = some (.prs T t []))
 |.whole id=>m' j=m id∧((∃ T t xs,H[id]? = some (.arr T t xs)∧H'[j]? = some (.arr T t xs)∧fz.getD id false=false) ∨
   (∃ k v es,H[id]? = some (.map k v es)∧H'[j]? = some (.map k v es)) ∨
   (∃ cs cs' b c vs T,H[id]? = some (.box cs)∧H'[j]? = some (.box cs')∧cs'.length=cs.length∧m id=some (b,c)∧w.heap[b]? = some (.cells vs T (0,0))∧AP w F m' H' cs' vs.toList∧∀ u∈vs.toList,u.oneCell'=true) ∨
   (∃ T tgt j0 is,H[id]? = some (.prs T tgt is)∧H'[j]? = some (.prs T j0 is)∧ObI w F m' H' (.prs T j0 is) (m id)) ∨
   (∃ T e t xs ver,H[id]? = some (.rows T e t xs ver none)∧H'[j]? = some (.rows T e t xs 0 none)∧(∀ k,m' (.r j k)=m (.r id k))∧fz.getD id false=false))
 |.cut id=>∃ T t xs n,H[id]? = some (.arr T t xs)∧fz.getD id false=false∧H'[j]? = some (.arr T t (List.take (α:=t.den) n xs))∧(m' j=m id∨(m' j=none∧List.take (α:=t.den) n xs=[]))
structure Inv(w:World)(F:Nat→Prop)(m:Mp)(H:List Ob)(fz:List Bool)(bs:List Bnd)(m':Mp)(E:St)(val:Nat→Value):Prop where
 tmps:∀ t,Rep w F m' E.heap (E.tmps.f t) (val t)
 lenH:E.heap.length=bs.length
 lenF:E.frz.length=E.heap.length
 frz:∀ i,E.frz.getD i false=false
 ob:∀ j b,bs[j]? = some b→A4 w F m H fz m' E.heap j b
 inj:∀ (i j:Nat) (b c:Bnd) (id:Nat),bs[i]? = some b→bs[j]? = some c→b.id? = some id→c.id? = some id→i=j
def AHU(w:World)(m:Mp)(H:List Ob)(bs:List Bnd)(val:Nat→Value):Loc→Value→Prop
 |.tmp t,u=>u=val t
 |.cell j c,u=>∃ id b cc vs T cs,bs[j]? = some (.whole id)∧H[id]? = some (.box cs)∧m id=some (b,cc)∧w.heap[b]? = some (.cells vs T (0,0))∧vs.toList[c]? = some u
 |_,_=>True
theorem AVM{w:World}{F:Nat→Prop}{m:Mp}{H:List Ob}{cs:List AV}{us:List Value}{c:Nat}{v:AV}{u:Value}(h:AP w F m H cs us)(hu:us[c]? = some u)(hv:Rep w F m H v u):AP w F m H (cs.set c v) us:=by
 refine Cm (by simp[Ae h]) fun i x y hx hy => ?_;by_cases hic:i=c;subst hic;rw[hu]at hy;cases hy;have hl:i<cs.length:=by rw[← Ae h];rcases Abv i us.length with h'|h';exact h';rw[Abo h']at hu;cases hu
 rw[Ace hl]at hx;cases hx;exact hv;rw[Acm (Ab9 hic)]at hx;obtain⟨y',hy',hr⟩:=B4 h hx;rw[hy]at hy';cases hy';exact hr
theorem AP1{w:World}{F:Nat→Prop}{m:Mp}{H:List Ob}{tm:Tm}{val:Nat→Value}(h:∀ t,Rep w F m H (tm.f t) (val t)){t:Nat}{v:AV}(hv:Rep w F m H v (val t)):∀ i,Rep w F m H ((tm.set t v).f i) (val i):=by intro i;rw[Tm.M4];split;rename_i h1;rw[h1.1];exact hv;exact h i
theorem Zh{w:World}{F F2:Nat→Prop}{m m2:Mp}{H H2:List Ob}{T:TypeId}{j:Nat}{is:List Int}{l:Option (Nat×Nat)}(h3:∀ {cs us},AP w F m H cs us→AP w F2 m2 H2 cs us)(h:ObI w F m H (.prs T j is) l):ObI w F2 m2 H2 (.prs T j is) l:=by
 cases l with
  |none=>exact h
  |some p=>obtain⟨b,cap⟩:=p;obtain⟨vs,us,e1,e2,e3,e4,e5,e6⟩:=h;exact⟨vs,us,e1,e2,e3,e4,h3 e5,e6⟩
section
variable {w:World} {F:Nat→Prop} {m:Mp} {H:List Ob} {fz:List Bool} {bs:List Bnd} {m':Mp} {E:St} {val:Nat→Value}
theorem A4.mono{b:Bnd}{m'':Mp}{H' H'':List Ob}{j:Nat}(h:A4 w F m H fz m' H' j b)(h1:H''[j]? = H'[j]?)(h2:∀ x:Ix,x.id=j→m'' x=m' x)(h3:∀ {cs us},AP w F m' H' cs us→AP w F m'' H'' cs us):A4 w F m H fz m'' H'' j b:=by
 cases b with
  |none=>simp only[A4]at *;rw[h1,h2 j rfl];exact h
  |whole id=>
   simp only[A4]at *;rw[h1,h2 j rfl];obtain⟨e,h⟩:=h;refine⟨e,?_⟩;rcases h with h|h|⟨cs,cs',b,c,vs,T,a1,a2,a3,a4,a5,a6,a7⟩|⟨T,tgt,j0,is,a1,a2,a3⟩|⟨T,e',t,xs,ver,a1,a2,a3⟩
   exact .inl h;exact .inr (.inl h);exact .inr (.inr (.inl ⟨cs,cs',b,c,vs,T,a1,a2,a3,a4,a5,h3 a6,a7⟩));exact .inr (.inr (.inr (.inl ⟨T,tgt,j0,is,a1,a2,Zh h3 a3⟩)));exact .inr (.inr (.inr (.inr ⟨T,e',t,xs,ver,a1,a2,fun k=>(h2 (.r j k) rfl).trans (a3.1 k),a3.2⟩)))
  |cut id=>simp only[A4]at *;rw[h1,h2 j rfl];exact h
theorem Inv.place(h:Inv w F m H fz bs m' E val){l:Loc}{u:Value}{v:AV}(hl:AHU w m H bs val l u)(hv:Rep w F m' E.heap v u):Inv w F m H fz bs m' (Pev.place E v l) val:=by
 cases l with
  |tmp t=>have hl:u=val t:=hl;subst hl;exact⟨AP1 h.tmps hv,h.lenH,h.lenF,h.frz,h.ob,h.inj⟩
  |cap t i=>exact h
  |obj j=>exact h
  |cell j c=>
   obtain⟨id,b,cc,vs,T,cs,hj,hb,hm,hw,hu⟩:=hl;have hbd:=h.ob j _ hj;simp only[A4]at hbd;obtain⟨hm',hbd⟩:=hbd;rw[hb]at hbd;rcases hbd with⟨_,_,_,hx,_⟩|⟨_,_,_,hx,_⟩|⟨cs0,cs',b0,c0,vs0,T0,hx,h1,h2,h3,h4,h5,h6⟩|⟨_,_,_,_,hx,_⟩|⟨_,_,_,_,_,hx,_⟩
   cases hx;cases hx;rotate_left;cases hx;cases hx;cases hx;rw[hm]at h3;cases h3;rw[hw]at h4;cases h4;have hlt:=AY h1;have hcomp:Bz E.heap (E.heap.set j (.box (cs'.set c v))) m' m':=by
    intro i o hi hf;by_cases hij:i=j;subst hij;rw[h1]at hi;cases hi;exact .inr ⟨by simp,_,Ak hlt,trivial,rfl,fun _ _ _=>rfl⟩;rcases Bz.refl E.heap m' i o hi hf with h|⟨hd,o',h4,h5,_⟩
    exact .inl (by rw[AR hij];exact h);exact .inr ⟨hd,o',by rw[AR hij];exact h4,h5,rfl,fun _ _ _=>rfl⟩
   have mono:∀ {a u},Rep w F m' E.heap a u→Rep w F m' (E.heap.set j (.box (cs'.set c v))) a u:=fun h=>Rep.mono (fun _ _=>rfl) (fun _ h=>h) hcomp _ h;have monoL:∀ {a u},AP w F m' E.heap a u→AP w F m' (E.heap.set j (.box (cs'.set c v))) a u:=fun h=>AP.mono (fun _ _=>rfl) (fun _ h=>h) hcomp _ h;unfold Pev.place;simp only[h1];refine⟨fun t=>mono (h.tmps t),by simp[h.lenH],by simp[h.lenF],h.frz,fun i x hi => ?_,h.inj⟩;by_cases hij:i=j;subst hij;rw[hj]at hi;cases hi;simp only[A4];exact⟨hm',.inr (.inr (.inl ⟨cs,_,b,cc,vs,T,hb,Ak hlt,by simp[h2],hm,hw,monoL (AVM h5 hu hv),h6⟩))⟩;exact(h.ob i x hi).mono (AR hij) (fun _ _=>rfl) monoL
theorem Ol{α:Type}{l:List α}{x y:α}{j:Nat}(h:(l++[x])[j]? = some y):(j<l.length∧l[j]? = some y)∨(j=l.length∧y=x):=by rcases Nat.lt_trichotomy j l.length with hj|hj|hj;rw[Abq hj]at h;exact .inl ⟨hj,h⟩;subst hj;simp at h;exact .inr ⟨rfl,h.symm⟩;rw[Abo (by simp;omega)]at h;cases h
theorem Inv.Aa2(h:Inv w F m H fz bs m' E val){b:Bnd}{o:Ob}{mn:Mp}(hmn:∀ x:Ix,x.id≠E.heap.length→mn x=m' x)(hid:∀ (i:Nat) (c:Bnd) (id:Nat),bs[i]? = some c→c.id? = some id→b.id?≠some id)
  (hbd:A4 w F m H fz mn (E.heap++[o]) E.heap.length b):Inv w F m H fz (bs++[b]) mn (DE E o) val:=by
 have hcomp:Bz E.heap (E.heap++[o]) m' mn:=by
  intro i x hi hf;have hlt:=AY hi;rcases Bz.refl E.heap m' i x hi hf with h|⟨hd,o',h4,h5,_⟩
  exact .inl (by rw[Abq hlt];exact h);exact .inr ⟨hd,o',by rw[Abq hlt];exact h4,h5,hmn _ (by show i≠_;omega),fun _ _ _=>hmn _ (by show i≠_;omega)⟩
 have monoL:∀ {a u},AP w F m' E.heap a u→AP w F mn (E.heap++[o]) a u:=fun h=>AP.mono (fun _ _=>rfl) (fun _ h=>h) hcomp _ h;refine⟨fun t=>Rep.mono (fun _ _=>rfl) (fun _ h=>h) hcomp _ (h.tmps t),by simp[DE,h.lenH],by simp[DE,h.lenF],fun i => ?_,fun j x hj => ?_,fun i j x y id hi hj hx hy => ?_⟩;have:=h.frz i;simp only[DE];rw[Abi]at this ⊢;rcases Abv i E.frz.length with hl|hl;rw[Abq hl];exact this;rw[Abs hl];cases hk:i-E.frz.length with
  |zero=>simp
  |succ k=>simp
 rcases Ol hj with⟨hlt,hj1⟩|⟨hj1,rfl⟩
 rw[← h.lenH]at hlt;exact(h.ob j x hj1).mono (Abq hlt) (fun y hy=>hmn y (by omega)) monoL;rw[← h.lenH]at hj1;rw[hj1];exact hbd;rcases Ol hi with⟨hlt,hi1⟩|⟨hi1,rfl⟩
 rcases Ol hj with⟨hlt',hj1⟩|⟨hj1,rfl⟩
 exact h.inj i j x y id hi1 hj1 hx hy;exact absurd hy (hid i x id hi1 hx);rcases Ol hj with⟨hlt',hj1⟩|⟨hj1,rfl⟩
 exact absurd hx (hid j y id hj1 hy);omega
theorem Inv.add(h:Inv w F m H fz bs m' E val){b:Bnd}{o:Ob}{l:Option (Nat×Nat)}(hid:∀ (i:Nat) (c:Bnd) (id:Nat),bs[i]? = some c→c.id? = some id→b.id?≠some id)
  (hbd:A4 w F m H fz (upd m' E.heap.length l) (E.heap++[o]) E.heap.length b):Inv w F m H fz (bs++[b]) (upd m' E.heap.length l) (DE E o) val:=
 h.Aa2 (fun x hx=>O7 hx x rfl) hid hbd
theorem EB{id:Nat}(h:fresh? bs id=true):∀ (i:Nat) (c:Bnd),bs[i]? = some c→c.id?≠some id:=by
 intro i c hi he;unfold fresh? at h;rw[Abk]at h;have:=h c (Abj hi);cases c with
  |none=>simp[Bnd.id?]at he
  |whole k=>simp only[Bnd.id?,AbZ]at he;subst he;simp at this
  |cut k=>simp only[Bnd.id?,AbZ]at he;subst he;simp at this
theorem Inv.freeze(h:Inv w F m H fz bs m' E val){f:List Nat}(hf:f.all (fresh? bs)=true):Inv w (Ci F m H f) m H (AS f fz) bs m' E val:=by
 have monoL:∀ {a u},AP w F m' E.heap a u→AP w (Ci F m H f) m' E.heap a u:=fun h=>AP.mono (fun _ _=>rfl) (fun _ h=>.inl h) (Bz.refl _ _) _ h;have hfz:∀ (id i:Nat) (c:Bnd),bs[i]? = some c→c.id? = some id→fz.getD id false=false→(AS f fz).getD id false=false:=by
  intro id i c hi hc h0;rw[Al,h0];have:id∉f:=fun hid=>by rw[Abk]at hf;exact EB (hf id hid) i c hi hc
  simp[this]
 refine⟨fun t=>Rep.mono (fun _ _=>rfl) (fun _ h=>.inl h) (Bz.refl _ _) _ (h.tmps t),h.lenH,h.lenF,h.frz,fun j b hj => ?_,h.inj⟩;have:=h.ob j b hj;cases b with
  |none=>exact this
  |whole id=>
   simp only[A4]at *;obtain⟨e,this⟩:=this;refine⟨e,?_⟩;rcases this with⟨T,t,xs,a1,a2,a3⟩|h1|⟨cs,cs',b,c,vs,T,a1,a2,a3,a4,a5,a6,a7⟩|⟨T,tgt,j0,is,a1,a2,a3⟩|⟨T,e',t,xs,ver,a1,a2,a3,a4⟩
   exact .inl ⟨T,t,xs,a1,a2,hfz id j _ hj rfl a3⟩;exact .inr (.inl h1);exact .inr (.inr (.inl ⟨cs,cs',b,c,vs,T,a1,a2,a3,a4,a5,monoL a6,a7⟩));exact .inr (.inr (.inr (.inl ⟨T,tgt,j0,is,a1,a2,Zh monoL a3⟩)));exact .inr (.inr (.inr (.inr ⟨T,e',t,xs,ver,a1,a2,a3,hfz id j _ hj rfl a4⟩)))
  |cut id=>simp only[A4]at *;obtain⟨T,t,xs,n,a1,a2,a3⟩:=this;exact⟨T,t,xs,n,a1,hfz id j _ hj rfl a2,a3⟩
theorem AEy{j id off:Nat}{u:Value}(hb:A4 w F m H fz m' E.heap j (.whole id))(hu:Rep w F m H (.ptr id off) u):Rep w F m' E.heap (.ptr j off) u:=by
 simp only[A4]at hb;obtain⟨e,hb⟩:=hb;unfold Rep at *;unfold Eh at *;rcases hb with⟨T,t,xs,a1,_⟩|⟨k,v,es,a1,_⟩|⟨cs,cs',b,c,vs,T,a1,a2,_,a4,_⟩|⟨_,_,_,_,a1,_⟩|⟨_,_,_,_,_,a1,_⟩
 rw[a1]at hu;exact hu.elim;rw[a1]at hu;exact hu.elim;rw[a1]at hu;rw[a2,e];exact hu;rw[a1]at hu;exact hu.elim;rw[a1]at hu;exact hu.elim
theorem AYP{j id i sub:Nat}{u:Value}(hb:A4 w F m H fz m' E.heap j (.whole id))(hu:Rep w F m H (.eptr id i sub) u):Rep w F m' E.heap (.eptr j i sub) u:=by
 simp only[A4]at hb;obtain⟨e,hb⟩:=hb;unfold Rep at *;unfold CS at *;rcases hb with⟨T,t,xs,a1,a2,_⟩|⟨k,v,es,a1,_⟩|⟨cs,cs',b,c,vs,T,a1,a2,_,a4,_⟩|⟨_,_,_,_,a1,a2,_⟩|⟨K,_,_,_,_,a1,a2,_⟩
 rw[a1]at hu;rw[a2,e];exact hu;rw[a1]at hu;exact hu.elim;rw[a1]at hu;exact hu.elim;rw[a1]at hu;rw[a2,e];exact hu;rw[a1]at hu;rw[a2,e];cases K<;>exact hu
theorem AWj{j id:Nat}{is:List Int}{us:List Value}(hb:A4 w F m H fz m' E.heap j (.whole id))(hu:AP w F m H (EV id is) us):AP w F m' E.heap (EV j is) us:=by refine Cm (by have:=Ae hu;simpa [EV]using this) fun i c v hc hv => ?_;rw[EV,Ab6,Abc]at hc;obtain⟨x,hx,rfl⟩:=hc;obtain⟨v',hv',hr⟩:=B4 hu (i:=i) (c:=.eptr id x.toNat 0) (by rw[EV,Ab6,hx];rfl);rw[hv]at hv';cases hv';exact AYP hb hr
theorem AbH{j id:Nat}{u:Value}(hb:A4 w F m H fz m' E.heap j (.whole id))(hu:Rep w F m H (.mp id) u):Rep w F m' E.heap (.mp j) u:=by
 simp only[A4]at hb;obtain⟨e,hb⟩:=hb;unfold Rep at *;unfold IN at *;rcases hb with⟨T,t,xs,a1,_⟩|⟨k,v,es,a1,a2⟩|⟨cs,cs',b,c,vs,T,a1,a2,_,a4,_⟩|⟨_,_,_,_,a1,_⟩|⟨K,_,_,_,_,a1,a2,_⟩
 rw[a1]at hu;exact hu.elim;rw[a1]at hu;rw[a2,e];exact hu;rw[a1]at hu;exact hu.elim;rw[a1]at hu;exact hu.elim;rw[a1]at hu;rw[a2,e];cases K<;>exact hu
theorem ASZ{j id:Nat}{u:Value}(hb:A4 w F m H fz m' E.heap j (.whole id))(hu:Rep w F m H (.own id) u):Rep w F m' E.heap (.own j) u:=by
 simp only[A4]at hb;obtain⟨e,hb⟩:=hb;unfold Rep at *;unfold At at *;rcases hb with⟨T,t,xs,a1,a2,_⟩|⟨k,v,es,a1,a2⟩|⟨cs,cs',b,c,vs,T,a1,a2,_,a4,_⟩|⟨_,_,_,_,a1,a2,_⟩|⟨K,_,_,_,_,a1,a2,_⟩
 rw[a1]at hu;rw[a2,e];exact hu;rw[a1]at hu;exact hu.elim;rw[a1]at hu;exact hu.elim;rw[a1]at hu;rw[a2,e];exact hu;rw[a1]at hu;rw[a2,e];cases K<;>exact hu
theorem AYu{j id n:Nat}{u:Value}(hb:A4 w F m H fz m' E.heap j (.whole id))(hu:Rep w F m H (.aptr id n) u):Rep w F m' E.heap (.aptr j n) u:=by
 simp only[A4]at hb;obtain⟨e,hb⟩:=hb;unfold Rep at *;unfold EK at *;rcases hb with⟨T,t,xs,a1,a2,_⟩|⟨k,v,es,a1,a2⟩|⟨cs,cs',b,c,vs,T,a1,a2,_,a4,_⟩|⟨_,_,_,_,a1,a2,_⟩|⟨K,_,_,_,_,a1,a2,_⟩
 rw[a1]at hu;rw[a2,e];exact hu;rw[a1]at hu;exact hu.elim;rw[a1]at hu;exact hu.elim;rw[a1]at hu;exact hu.elim;rw[a1]at hu;exact hu.elim
theorem AD9{j id off n:Nat}{u:Value}(hb:A4 w F m H fz m' E.heap j (.whole id))(hu:Rep w F m H (.win id off n) u):Rep w F m' E.heap (.win j off n) u:=by
 simp only[A4]at hb;obtain⟨e,hb⟩:=hb;unfold Rep at *;unfold FT at *;rcases hb with⟨T,t,xs,a1,a2,_⟩|⟨k,v,es,a1,a2⟩|⟨cs,cs',b,c,vs,T,a1,a2,_,a4,_⟩|⟨_,_,_,_,a1,_⟩|⟨_,_,_,_,_,a1,_⟩
 rw[a1]at hu;rw[a2,e];exact hu;rw[a1]at hu;exact hu.elim;rw[a1]at hu;exact hu.elim;rw[a1]at hu;exact hu.elim;rw[a1]at hu;exact hu.elim
theorem AXF{id:Nat}{u:Value}{T:TypeId}{t:Ty}{ys:List t.den}(hi:HI w F m H fz)(ho:H[id]? = some (.arr T t ys))(hu:Rep w F m H (.own id) u):Rep w F m H (.win id 0 ys.length) u:=by
 unfold Rep at *;unfold At at hu;unfold FT;rw[ho]at hu ⊢;simp only at hu ⊢;refine⟨by omega,?_⟩;cases hm:m id with
  |none=>rw[hm]at hu;obtain⟨a,rfl⟩:=hu;obtain⟨_,hob⟩:=hi.obj id _ ho;rw[hm]at hob;simp only at hob;subst hob;exact⟨a,rfl⟩
  |some p=>obtain⟨b,cap⟩:=p;rw[hm]at hu;simp only at hu;subst hu;exact⟨some ⟨b,0,none⟩,rfl,fun _=>by simp⟩
theorem GF{α:Type}{l:List α}{i:Nat}{o:α}(h:l[i]? = some o):i<l.length:=by rcases Abv i l.length with h'|h';exact h';rw[Abo h']at h;cases h
theorem BV(hi:HI w F m H fz){tm:Nat→Option AV}(ht:∀ t v,tm t=some v→Rep w F m H v (val t)){l:Loc}{v:AV}(h:look tm H bs l=some v):∃ u,Rep w F m H v u∧AHU w m H bs val l u:=by
 cases l with
  |tmp t=>exact⟨val t,ht t v h,rfl⟩
  |cell j c=>simp only[look]at h;split at h;rename_i id hj;split at h;rename_i cs ho;obtain⟨b,cc,vs,T,h1,h2,h3,h4⟩:=hi.obj id _ ho;obtain⟨u,hu,hr⟩:=B4 h3 h;exact⟨u,hr,id,b,cc,vs,T,cs,hj,ho,h1,h2,hu⟩;cases h;cases h
  |cap t i=>simp only[look]at h;split at h;rename_i f cs hc;have:=ht t _ hc;unfold Rep at this;obtain⟨us,_,hr⟩:=this;obtain⟨u,_,hu⟩:=B4 hr h;exact⟨u,hu,trivial⟩;rename_i f cs hc;have:=ht t _ hc;unfold Rep at this;obtain⟨us,_,hr⟩:=this;obtain⟨u,_,hu⟩:=B4 hr h;exact⟨u,hu,trivial⟩;cases h
  |obj j=>
   simp only[look,AY6]at h;split at h;rename_i T t xs ho;cases h;have:=hi.obj j _ ho;obtain⟨_,this⟩:=this;cases hm:m j with
    |none=>refine⟨.slice none 0 0,?_,trivial⟩;unfold Rep At;rw[ho,hm];exact⟨none,rfl⟩
    |some p=>obtain⟨b,cap⟩:=p;refine⟨.slice (some ⟨b,0,none⟩) (List.length (α:=t.den) xs) cap,?_,trivial⟩;unfold Rep At;rw[ho,hm]
   rename_i cs ho;cases h;obtain⟨b,c,vs,T,h1,_⟩:=hi.obj j _ ho;refine⟨.pointer (some ⟨b,0,none⟩),?_,trivial⟩;unfold Rep Eh;rw[ho];exact⟨b,c,h1,rfl⟩;rename_i k v es ho;cases h;obtain⟨b,c,vs,T,h1,_⟩:=hi.obj j _ ho;refine⟨.map (some b),?_,trivial⟩;unfold Rep IN;rw[ho];exact⟨b,c,h1,rfl⟩;rename_i T t is ho;cases h;cases hm:m j with
    |none=>refine⟨.slice none 0 0,?_,trivial⟩;unfold Rep At;rw[ho,hm];exact⟨none,rfl⟩
    |some p=>obtain⟨b,cap⟩:=p;refine⟨.slice (some ⟨b,0,none⟩) is.length cap,?_,trivial⟩;unfold Rep At;rw[ho,hm]
   rename_i T e t xs ver out ho;cases h;cases hm:m j with
    |none=>refine⟨.slice none 0 0,?_,trivial⟩;unfold Rep At;rw[ho,hm];exact⟨none,rfl⟩
    |some p=>obtain⟨b,cap⟩:=p;refine⟨.slice (some ⟨b,0,none⟩) (List.length (α:=List t.den) xs) cap,?_,trivial⟩;unfold Rep At;rw[ho,hm]
   rename_i jk ks e t xs ver out ho;cases h;obtain⟨_,h1⟩:=hi.obj j _ ho;cases hm:m j with
    |none=>rw[hm]at h1;cases h1.1
    |some p=>obtain⟨b,cap⟩:=p;refine⟨.map (some b),?_,trivial⟩;unfold Rep IN;rw[ho];exact⟨b,cap,hm,rfl⟩
   cases h
theorem AHU.app{l:Loc}{u:Value}(h:AHU w m H bs val l u)(b:Bnd):AHU w m H (bs++[b]) val l u:=by
 cases l with
  |tmp t=>exact h
  |cap t i=>trivial
  |obj j=>trivial
  |cell j c=>obtain⟨id,b1,cc,vs,T,cs,h1,h2⟩:=h;exact⟨id,b1,cc,vs,T,cs,by rw[Abq (GF h1)];exact h1,h2⟩
theorem AYZ(hb:∀ j b,bs[j]? = some b→A4 w F m H fz m' E.heap j b):∀ (vs:List AV) (ps:List (Nat×Nat)) (us:List Value),AOX bs vs ps=true→AP w F m H vs us→AP w F m' E.heap (ps.map fun p=>.ptr p.1 p.2) us:=by
 intro vs;induction vs with
  |nil=>
   intro ps us h hr;cases ps with
    |nil=>unfold AP at *;exact hr
    |cons p ps=>simp[AOX]at h
  |cons v vs ih=>
   intro ps us h hr;cases ps with
    |nil=>cases v<;>simp[AOX]at h
    |cons p ps=>
     obtain⟨j,o'⟩:=p;cases v<;>simp only[AOX]at h<;>try (cases h;done)
     rename_i id o;simp only[Aba]at h;obtain⟨h1,h2⟩:=h;unfold AP at hr;obtain⟨u,us',rfl,hu,hr⟩:=hr;simp only[AcL];unfold AP;refine⟨u,us',rfl,?_,ih ps us' h2 hr⟩;split at h1;rename_i id' hj;simp only[Aba,Abb]at h1;obtain⟨rfl,rfl⟩:=h1;exact AEy (hb j _ hj) hu;cases h1
end
end Go.Pev
end
section
namespace Go.Pev
open Go.RowKit
theorem AEd(f g:List Nat):∀ fz,AS (f++g) fz=AS g (AS f fz):=by
 induction f with
  |nil=>intro fz;rfl
  |cons a f ih=>intro fz;simp only[AcN,AS];exact ih _
section
variable {w:World} {H:List Ob} {m:Mp} {val:Nat→Value} {tm:Nat→Option AV}
theorem B1{fz:List Bool}{id:Nat}(h:AW fz id=true):fz.getD id false=false:=by unfold AW at h;simpa using h
theorem AGo:∀ (its:AB) (fz:List Bool) (bs:List Bnd) (F:Nat→Prop) (m':Mp) (E:St) (d:Ag (leaves its)) (bs':List Bnd) (fr:List Nat),
  HI w F m H fz→(∀ t v,tm t=some v→Rep w F m H v (val t))→Inv w F m H fz bs m' E val→dec tm H its fz bs=some (d,bs',fr) →
  ∃ F2 m2,Aa w F m H fz w F2 m H (AS fr fz)∧Inv w F2 m H (AS fr fz) bs' m2 (enc its d E) val∧∃ r,bs'=bs++r:=by
 intro its;induction its with
  |nil=>intro fz bs F m' E d bs' fr hi ht hv h;simp only[dec,AbZ]at h;obtain⟨rfl,rfl,rfl⟩:=h;exact⟨F,m',Aa.refl hi,hv,[],by simp⟩
  |cons p r ih=>
   intro fz bs F m' E d bs' fr hi ht hv h;obtain⟨l,c⟩:=p
   have obj:∀ (b:Bnd) (o:Ob) (lc:Option (Nat×Nat)) (ref:AV) (u:Value) (xs:Ag (leaves r)) (g:List Nat),AHU w m H bs val l u→(∀ (i:Nat) (c:Bnd) (id:Nat),bs[i]? = some c→c.id? = some id→b.id?≠some id) →
     A4 w F m H fz (upd m' E.heap.length lc) (E.heap++[o]) E.heap.length b→Rep w F (upd m' E.heap.length lc) (E.heap++[o]) ref u→dec tm H r fz (bs++[b])=some (xs,bs',g) →
     ∃ F2 m2,Aa w F m H fz w F2 m H (AS g fz)∧Inv w F2 m H (AS g fz) bs' m2 (enc r xs (place (DE E o) ref l)) val∧∃ r,bs'=bs++r:=by
    intro b o lc ref u xs g hat hid hbd hrep hd
    have h1:=hv.add hid hbd
    have h2:=h1.place (hat.app b) hrep
    obtain⟨F2,m2,a1,a2,rr,a3⟩:=ih fz (bs++[b]) F _ _ xs bs' g hi ht h2 hd
    exact⟨F2,m2,a1,a2,b::rr,by rw[a3];simp⟩
   have ref:∀ (v:AV) (u:Value) (xs:Ag (leaves r)) (g:List Nat),AHU w m H bs val l u→Rep w F m' E.heap v u→dec tm H r fz bs=some (xs,bs',g) →
     ∃ F2 m2,Aa w F m H fz w F2 m H (AS g fz)∧Inv w F2 m H (AS g fz) bs' m2 (enc r xs (place E v l)) val∧∃ r,bs'=bs++r:=by
    intro v u xs g hat hrep hd
    exact ih fz bs F _ _ xs bs' g hi ht (hv.place hat hrep) hd
   cases c with
    |dat t=>simp only[dec]at h;split at h;rename_i v hl;split at h;rename_i x f hx;split at h;rename_i hf;split at h;rename_i xs bs1 g hd;simp only[AbZ]at h;obtain⟨rfl,rfl,rfl⟩:=h;obtain⟨u,hu,hat⟩:=BV hi ht hl;have hdat:=AU0 hi hx hu;have hg:=Aa.freeze hi f;have hv1:=hv.freeze hf;have hv2:=hv1.place (v:=.data t x) hat (by unfold Rep;exact hdat);obtain⟨F2,m2,a1,a2,rr,a3⟩:=ih (AS f fz) bs (Ci F m H f) _ _ xs _ _ hg.2 (fun t v h=>hg.1.rep hi (ht t v h)) hv2 hd;rw[AEd];exact⟨F2,m2,hg.trans a1,a2,rr,a3⟩;cases h;cases h;cases h;cases h
    |own T e=>
     simp only[dec]at h;split at h;rename_i e' hl;split at h;rename_i hc;simp only[Abb]at hc;have hsz:=hc;split at h;rename_i xs bs1 g hd;simp only[AbZ]at h;obtain⟨rfl,rfl,rfl⟩:=h;obtain⟨u,hu,hat⟩:=BV hi ht hl;unfold Rep at hu;refine obj .none (.arr T e []) none (.own E.heap.length) u xs _ hat (fun _ _ _ _ _=>by simp[Bnd.id?]) ?_ ?_ hd;simp only[A4];exact⟨Af ..,.inl ⟨T,e,by simp,hsz⟩⟩;unfold Rep At;simp only[Abs (Abd _),Acv,Abr,Af];exact⟨_,hu⟩;cases h;cases h;rename_i id hl;split at h;rename_i T' e' ys ho hfr;simp only[Aba]at hfr;obtain⟨hun,hfr⟩:=hfr;split at h;rename_i ys' hT hc;simp only[Abb]at hT;subst hT;obtain⟨he,hy⟩:=B3 hc;subst he;simp only at hy;subst hy;split at h;rename_i xs bs1 g hd;simp only[AbZ]at h;obtain⟨rfl,rfl,rfl⟩:=h;obtain⟨u,hu,hat⟩:=BV hi ht hl;refine obj (.whole id) (.arr T e' ys) (m id) (.own E.heap.length) u xs _ hat (fun i c id' hic hcid => ?_) ?_ ?_ hd;rintro h;simp only[Bnd.id?,AbZ]at h;subst h;exact EB hfr i c hic hcid;simp only[A4];exact⟨Af ..,.inl ⟨T,e',ys,ho,by simp,B1 hun⟩⟩;unfold Rep at hu ⊢;rw[ho]at hu;rw[Abs (Abd _),Acv,Abr,Af];exact hu;cases h;cases h;cases h;rename_i id n hl;split at h;rename_i T' e' ys ho hfr;simp only[Aba]at hfr;obtain⟨hun,hfr⟩:=hfr;split at h;rename_i ys' hT hc;simp only[Abb]at hT;subst hT;obtain⟨he,hy⟩:=B3 hc;subst he;simp only at hy;subst hy;split at h;rename_i xs bs1 g hd;simp only[AbZ]at h;obtain⟨rfl,rfl,rfl⟩:=h;obtain⟨u,hu,hat⟩:=BV hi ht hl;unfold Rep FT at hu;rw[ho]at hu;obtain⟨hle,hu⟩:=hu;have hid:∀ (i:Nat) (c:Bnd) (id':Nat),bs[i]? = some c→c.id? = some id'→(Bnd.cut id).id?≠some id':=by intro i c id' hic hcid h;simp only[Bnd.id?,AbZ]at h;subst h;exact EB hfr i c hic hcid
     have hget:(E.heap++[Ob.arr T e' (CL n ys)])[E.heap.length]? = some (Ob.arr T e' (CL n ys)):=by simp
     obtain⟨hsz,hob⟩:=hi.obj id _ ho;have hnil:n=0→List.take (α:=e'.den) n ys=[]:=by rintro rfl;simp
     have hlen:List.length (α:=e'.den) (CL n ys)=n:=by unfold CL;rw[Abn];omega
     cases hm:m id with
      |none=>
       rw[hm]at hob hu;simp only at hob hu;subst hob;have h0:n=0:=by simpa using hle
       subst h0;obtain⟨a,rfl⟩:=hu;refine obj (.cut id) (.arr T e' (CL 0 [])) none (.own E.heap.length) _ xs _ hat hid ?_ ?_ hd;simp only[A4];exact⟨T,e',[],0,ho,B1 hun,hget,.inl (by rw[Af,hm])⟩;unfold Rep;rw[hget,Af];exact⟨a,rfl⟩
      |some p=>
       obtain⟨b,cap⟩:=p;rw[hm]at hob hu;obtain⟨a,rfl,ha⟩:=hu;obtain⟨vs,row,o1,o2,o3,o4,o5,o6⟩:=hob;by_cases hcap:cap=0;subst hcap;have h0:n=0:=by omega
       refine obj (.cut id) (.arr T e' (CL n ys)) none (.own E.heap.length) _ xs _ hat hid ?_ ?_ hd;simp only[A4];exact⟨T,e',ys,n,ho,B1 hun,hget,.inr ⟨Af ..,hnil h0⟩⟩;unfold Rep;rw[hget,Af];exact⟨a,by rw[h0]⟩;refine obj (.cut id) (.arr T e' (CL n ys)) (m id) (.own E.heap.length) _ xs _ hat hid ?_ ?_ hd;simp only[A4];exact⟨T,e',ys,n,ho,B1 hun,hget,.inl (Af ..)⟩;unfold Rep At;rw[hget,Af,hm];have:=ha (by omega);rw[this];simp[hlen]
     cases h;cases h;cases h;cases h
    |box n=>simp only[dec]at h;split at h;rename_i id hl;split at h;rename_i cs ho hfr;split at h;rename_i hn;simp only[Abb]at hn;obtain⟨u,hu,hat⟩:=BV hi ht hl;obtain⟨b,cc,vs,T,b1,b2,b3,b4⟩:=hi.obj id _ ho;refine obj (.whole id) (.box (List.replicate n .Bo)) (m id) (.ptr E.heap.length 0) u d fr hat (fun i c id' hic hcid => ?_) ?_ ?_ h;rintro h;simp only[Bnd.id?,AbZ]at h;subst h;exact EB hfr i c hic hcid;simp only[A4];refine⟨Af ..,.inr (.inr (.inl ⟨cs,List.replicate n .Bo,b,cc,vs,T,ho,by simp,by simp[hn],b1,b2,?_,b4⟩))⟩;refine Cm (by rw[Ae b3];simp[hn]) fun i c v hc _ => ?_;have:=Ack (Abj hc);subst this;unfold Rep;trivial;unfold Rep Eh at hu ⊢;rw[ho]at hu;rw[Abs (Abd _),Acv,Abr,Af];exact hu;cases h;cases h;cases h
    |map k v=>simp only[dec]at h;split at h;rename_i id hl;split at h;rename_i k' v' es ho hfr;split at h;rename_i es' hc;obtain⟨he,hy⟩:=B3 hc;cases he;simp only at hy;subst hy;split at h;rename_i xs bs1 g hd;simp only[AbZ]at h;obtain⟨rfl,rfl,rfl⟩:=h;obtain⟨u,hu,hat⟩:=BV hi ht hl;refine obj (.whole id) (.map k v es) (m id) (.mp E.heap.length) u xs _ hat (fun i c id' hic hcid => ?_) ?_ ?_ hd;rintro h;simp only[Bnd.id?,AbZ]at h;subst h;exact EB hfr i c hic hcid;simp only[A4];exact⟨Af ..,.inr (.inl ⟨k,v,es,ho,by simp⟩)⟩;unfold Rep IN at hu ⊢;rw[ho]at hu;rw[Abs (Abd _),Acv,Abr,Af];exact hu;cases h;cases h;cases h;cases h
    |own' j=>simp only[dec]at h;split at h;rename_i id id' hl hj;split at h;rename_i hid;simp only[Abb]at hid;subst hid;obtain⟨u,hu,hat⟩:=BV hi ht hl;exact ref (.own j) u d fr hat (ASZ (hv.ob j _ hj) hu) h;cases h;cases h
    |ptr' j off=>simp only[dec]at h;split at h;rename_i id o id' hl hj;split at h;rename_i hid;simp only[Aba,Abb]at hid;obtain⟨rfl,rfl⟩:=hid;obtain⟨u,hu,hat⟩:=BV hi ht hl;exact ref (.ptr j o) u d fr hat (AEy (hv.ob j _ hj) hu) h;cases h;cases h
    |sub' j=>simp only[dec]at h;split at h;rename_i id off n id' hl hj;split at h;rename_i hid;simp only[Abb]at hid;subst hid;split at h;rename_i xs bs1 g hd;simp only[AbZ]at h;obtain⟨rfl,rfl,rfl⟩:=h;obtain⟨u,hu,hat⟩:=BV hi ht hl;exact ref (.win j off n) u xs _ hat (AD9 (hv.ob j _ hj) hu) hd;cases h;cases h;cases h
    |win' j=>simp only[dec]at h;split at h;rename_i id n id' hl hj;split at h;rename_i hid;simp only[Abb]at hid;subst hid;split at h;rename_i xs bs1 g hd;simp only[AbZ]at h;obtain⟨rfl,rfl,rfl⟩:=h;obtain⟨u,hu,hat⟩:=BV hi ht hl;exact ref (.win j 0 n) u xs _ hat (AD9 (hv.ob j _ hj) hu) hd;cases h;cases h;rename_i id id' hl hj;split at h;rename_i T t ys hid ho;simp only[Abb]at hid;subst hid;split at h;rename_i xs bs1 g hd;simp only[AbZ]at h;obtain⟨rfl,rfl,rfl⟩:=h;obtain⟨u,hu,hat⟩:=BV hi ht hl;exact ref (.win j 0 ys.length) u xs _ hat (AD9 (hv.ob j _ hj) (AXF hi ho hu)) hd;cases h;cases h;cases h
    |map' j=>simp only[dec]at h;split at h;rename_i id id' hl hj;split at h;rename_i hid;simp only[Abb]at hid;subst hid;obtain⟨u,hu,hat⟩:=BV hi ht hl;exact ref (.mp j) u d fr hat (AbH (hv.ob j _ hj) hu) h;cases h;cases h
    |clo f ps=>simp only[dec]at h;split at h;rename_i f' vs hl;split at h;rename_i hc;simp only[Aba,Abb]at hc;obtain⟨rfl,hc⟩:=hc;obtain⟨u,hu,hat⟩:=BV hi ht hl;unfold Rep at hu;obtain⟨cs,rfl,hr⟩:=hu;exact ref (.clo f (ps.map fun p=>.ptr p.1 p.2)) _ d fr hat (by unfold Rep;exact⟨cs,rfl,AYZ hv.ob vs ps cs.toList hc hr⟩) h;cases h;cases h
    |bnd f j=>simp only[dec]at h;split at h;rename_i f' id id' hl hj;split at h;rename_i hc;simp only[Aba,Abb]at hc;obtain⟨rfl,rfl⟩:=hc;obtain⟨u,hu,hat⟩:=BV hi ht hl;unfold Rep at hu;obtain⟨cs,rfl,hr⟩:=hu;refine ref (.bnd f [.own j]) _ d fr hat ?_ h;unfold Rep;refine⟨cs,rfl,?_⟩;unfold AP at hr ⊢;obtain⟨x,xs,e1,e2,e3⟩:=hr;refine⟨x,xs,e1,ASZ (hv.ob j _ hj) e2,?_⟩;unfold AP at e3 ⊢;exact e3;cases h;cases h
    |prs T j=>
     simp only[dec]at h;split at h;rename_i e' hl;split at h;rename_i xs bs1 g hd;simp only[AbZ]at h;obtain⟨rfl,rfl,rfl⟩:=h;obtain⟨u,hu,hat⟩:=BV hi ht hl;unfold Rep at hu;refine obj .none (.prs T j []) none (.own E.heap.length) u xs _ hat (fun _ _ _ _ _=>by simp[Bnd.id?]) ?_ ?_ hd;simp only[A4];exact⟨Af ..,.inr ⟨T,j,by simp⟩⟩;unfold Rep At;simp only[Abs (Abd _),Acv,Abr,Af];exact⟨_,hu⟩;cases h;rename_i id hl;split at h;rename_i T' tgt is tgt' ho hfr hj;split at h;rename_i hT;simp only[Aba,Abb]at hT;obtain⟨rfl,rfl⟩:=hT;split at h;rename_i xs bs1 g hd;simp only[AbZ]at h;obtain⟨rfl,rfl,rfl⟩:=h;obtain⟨u,hu,hat⟩:=BV hi ht hl;have hbj:=hv.ob j _ hj;have hob:=hi.obj id _ ho;have hcomp:Bz E.heap (E.heap++[.prs T j is]) m' (upd m' E.heap.length (m id)):=by
      intro i x hi hf;have hlt:=AY hi;rcases Bz.refl E.heap m' i x hi hf with h|⟨hd,o',h4,h5,_⟩
      exact .inl (by rw[Abq hlt];exact h);exact .inr ⟨hd,o',by rw[Abq hlt];exact h4,h5,ES (by omega),fun _ _ _=>Dg (by simp)⟩
     have hob':ObI w F (upd m' E.heap.length (m id)) (E.heap++[.prs T j is]) (.prs T j is) (m id):=by
      cases hm:m id with
       |none=>rw[hm]at hob;exact hob
       |some p=>obtain⟨b,cap⟩:=p;rw[hm]at hob hcomp;obtain⟨vs,us,e1,e2,e3,e4,e5,e6⟩:=hob;exact⟨vs,us,e1,e2,e3,e4,AP.mono (fun _ _=>rfl) (fun _ h=>h) hcomp _ (AWj hbj e5),e6⟩
     refine obj (.whole id) (.prs T j is) (m id) (.own E.heap.length) u xs _ hat (fun i c id' hic hcid => ?_) ?_ ?_ hd;rintro h;simp only[Bnd.id?,AbZ]at h;subst h;exact EB hfr i c hic hcid;simp only[A4];exact⟨Af ..,.inr (.inr (.inr (.inl ⟨T,tgt,j,is,ho,by simp,hob'⟩)))⟩;unfold Rep at hu ⊢;rw[ho]at hu;rw[Abs (Abd _),Acv,Abr,Af];exact hu;cases h;cases h;cases h;cases h
    |nil e=>
     simp only[dec]at h;cases hl:look tm H bs l with
      |none=>rw[hl]at h;cases h
      |some v=>
       rw[hl]at h;cases v with
        |nils e'=>obtain⟨u,hu,hat⟩:=BV hi ht hl;exact ref (.nils e) u d fr hat (by unfold Rep at *;exact hu) h
        |_=>cases h
    |rows T e t=>
     simp only[dec]at h;split at h;rename_i id hl;split at h;rename_i T' e' t' ys ver ho hfr;simp only[Aba]at hfr;obtain⟨hun,hfr⟩:=hfr;split at h;rename_i ys' hT hc;simp only[Aba,Abb]at hT;obtain⟨rfl,rfl⟩:=hT;obtain⟨he,hy⟩:=B3 hc;cases he;simp only at hy;subst hy;split at h;rename_i xs bs1 g hd;simp only[AbZ]at h;obtain⟨rfl,rfl,rfl⟩:=h;obtain⟨u,hu,hat⟩:=BV hi ht hl;have hrep:Rep w F (Ju m' E.heap.length (m id) fun k=>m (.r id k)) (E.heap++[.rows (.arr T) e t ys 0 none]) (.own E.heap.length) u:=by unfold Rep at hu ⊢;rw[ho]at hu;rw[Abs (Abd _),Acv,Abr,Hj];exact hu
     have h1:=hv.Aa2 (b:=.whole id) (o:=.rows (.arr T) e t ys 0 none) (mn:=Ju m' E.heap.length (m id) fun k=>m (.r id k)) (fun x hx=>FZ hx)
      (fun i c id' hic hcid h=>by simp only[Bnd.id?,AbZ]at h;subst h;exact EB hfr i c hic hcid)
      (by simp only[A4];exact⟨Hj,.inr (.inr (.inr (.inr ⟨.arr T,e,t,ys,ver,ho,by simp,fun k=>VX,B1 hun⟩)))⟩)
     have h2:=h1.place (hat.app (.whole id)) hrep;obtain⟨F2,m2,a1,a2,rr,a3⟩:=ih fz (bs++[.whole id]) F _ _ xs _ _ hi ht h2 hd;exact⟨F2,m2,a1,a2,.whole id::rr,by rw[a3];simp⟩;cases h;cases h;cases h;cases h
    |mrows j e t=>
     simp only[dec]at h;split at h;rename_i id hl;split at h;rename_i j' ks e' t' ys ver ho hfr;simp only[Aba]at hfr;obtain⟨hun,hfr⟩:=hfr;split at h;rename_i ys' hT hc;simp only[Aba,Abb]at hT;obtain⟨rfl,rfl⟩:=hT;obtain⟨he,hy⟩:=B3 hc;cases he;simp only at hy;subst hy;split at h;rename_i xs bs1 g hd;simp only[AbZ]at h;obtain⟨rfl,rfl,rfl⟩:=h;obtain⟨u,hu,hat⟩:=BV hi ht hl;have hrep:Rep w F (Ju m' E.heap.length (m id) fun k=>m (.r id k)) (E.heap++[.rows (.map j ks) e t ys 0 none]) (.mp E.heap.length) u:=by unfold Rep at hu ⊢;rw[ho]at hu;rw[Abs (Abd _),Acv,Abr,Hj];exact hu
     have h1:=hv.Aa2 (b:=.whole id) (o:=.rows (.map j ks) e t ys 0 none) (mn:=Ju m' E.heap.length (m id) fun k=>m (.r id k)) (fun x hx=>FZ hx)
      (fun i c id' hic hcid h=>by simp only[Bnd.id?,AbZ]at h;subst h;exact EB hfr i c hic hcid)
      (by simp only[A4];exact⟨Hj,.inr (.inr (.inr (.inr ⟨.map j ks,e,t,ys,ver,ho,by simp,fun k=>VX,B1 hun⟩)))⟩)
     have h2:=h1.place (hat.app (.whole id)) hrep;have hzl:ks.length=List.length (α:=List t.den) ys:=by
      obtain⟨_,h4⟩:=hi.obj id _ ho;cases hm:m id with
       |none=>rw[hm]at h4;cases h4.1
       |some p=>obtain⟨b,cap⟩:=p;rw[hm]at h4;obtain⟨_,_,_,_,_,h5,_⟩:=h4;exact(h5.resolve_right fun h=>by cases h.1).symm
     have he:enc ((l,.mrows j e t)::r) ((List.zip (β:=List t.den) ks ys,xs):Ag (leaves ((l,.mrows j e t)::r))) E=enc r xs (place (DE E (.rows (.map j ks) e t ys 0 none)) (.mp E.heap.length) l):=by simp only[enc];rw[List.map_fst_zip (Ac1 hzl),List.map_snd_zip (Ac1 hzl.symm)]
     rw[he];obtain⟨F2,m2,a1,a2,rr,a3⟩:=ih fz (bs++[.whole id]) F _ _ xs _ _ hi ht h2 hd;exact⟨F2,m2,a1,a2,.whole id::rr,by rw[a3];simp⟩;cases h;cases h;cases h;cases h
    |aptr T e n=>simp only[dec]at h;split at h;rename_i id n' hl;split at h;rename_i T' e' ys ho hfr;simp only[Aba]at hfr;obtain⟨hun,hfr⟩:=hfr;split at h;rename_i ys' hT hc;simp only[Aba,Abb]at hT;obtain⟨rfl,rfl⟩:=hT;obtain⟨he,hy⟩:=B3 hc;subst he;simp only at hy;subst hy;split at h;rename_i xs bs1 g hd;simp only[AbZ]at h;obtain⟨rfl,rfl,rfl⟩:=h;obtain⟨u,hu,hat⟩:=BV hi ht hl;refine obj (.whole id) (.arr T e' ys) (m id) (.aptr E.heap.length n) u xs _ hat (fun i c id' hic hcid => ?_) ?_ ?_ hd;rintro h;simp only[Bnd.id?,AbZ]at h;subst h;exact EB hfr i c hic hcid;simp only[A4];exact⟨Af ..,.inl ⟨T,e',ys,ho,by simp,B1 hun⟩⟩;unfold Rep at hu ⊢;rw[ho]at hu;rw[Abs (Abd _),Acv,Abr,Af];exact hu;cases h;cases h;cases h;cases h
    |bndp f j=>simp only[dec]at h;split at h;rename_i f' id id' hl hj;split at h;rename_i hc;simp only[Aba,Abb]at hc;obtain⟨rfl,rfl⟩:=hc;obtain⟨u,hu,hat⟩:=BV hi ht hl;unfold Rep at hu;obtain⟨cs,rfl,hr⟩:=hu;refine ref (.bnd f [.ptr j 0]) _ d fr hat ?_ h;unfold Rep;refine⟨cs,rfl,?_⟩;unfold AP at hr ⊢;obtain⟨x,xs,e1,e2,e3⟩:=hr;refine⟨x,xs,e1,AEy (hv.ob j _ hj) e2,?_⟩;unfold AP at e3 ⊢;exact e3;cases h;cases h
    |nilp=>
     simp only[dec]at h;cases hl:look tm H bs l with
      |none=>rw[hl]at h;cases h
      |some v=>
       rw[hl]at h;cases v with
        |nilp=>obtain⟨u,hu,hat⟩:=BV hi ht hl;exact ref .nilp u d fr hat (by unfold Rep at *;exact hu) h
        |_=>cases h
    |aptr' j n=>simp only[dec]at h;split at h;rename_i id n' id' hl hj;split at h;rename_i hid;simp only[Aba,Abb]at hid;obtain⟨rfl,rfl⟩:=hid;obtain⟨u,hu,hat⟩:=BV hi ht hl;exact ref (.aptr j n) u d fr hat (AYu (hv.ob j _ hj) hu) h;cases h;cases h
end
end Go.Pev
end
