/- A part of the proofs of this seat: PevOps6 PevOps7 PevOps8 PevOps9 PevOps10 PevKeep PevPrs PevRows2 PevOps12 PevMore PevKeys PevKeys2 PevOps11 PevCode PevLocal PevDraw PevDraw2 PevDec. -/
import Derived.Test.YtfojmhgomdbpfaaGreatDoorP47d6a0e1c6
import Derived.IntWalk
import Derived.Laws.StructEq
import Derived.Laws.BytesArg
set_option linter.unusedVariables false
set_option linter.unusedSimpArgs false
set_option linter.unusedSectionVars false
set_option maxRecDepth 100000
section
namespace Go.Pev
open Go.RowKit
section
variable {P:Program} {E:Env}
theorem Dd{w:World}{F:Nat→Prop}{m:Mp}{H:List Ob}{fz:List Bool}(hi:HI w F m H fz){slot:Nat}(hf:Av H fz slot=true)(T:TypeId){t:Ty}(ht:0<t.size)(a:Option Addr):
  ∃ m',Ap w F m H fz w F m' (H.set slot (.arr T t [])) fz∧Rep w F m' (H.set slot (.arr T t [])) (.own slot) (.slice a 0 0):=by
 have hg:=Ap.new (w':=w) hi hf (ob:=.arr T t []) trivial none rfl rfl rfl (AjO _) (fun _ _=>rfl) (fun b c h=>by cases h) (fun _=>⟨ht,rfl⟩)
 refine⟨_,hg,?_⟩
 unfold Rep
 have hlt:=Al (BN hf).1
 rw[Aw hlt,Aq]
 exact⟨a,rfl⟩
theorem YY{w:World}{T e:TypeId}{i:TypeInfo}(hu:P.underlying T=some (.slice e))(hi:P.info? e=some i)(a:Option Addr)(len cap:Nat)(k k':IntKind):
  (Instr.sliceAt T (.slice a len cap) none (some (.int k 0)) (some (.int k' 0))).run P w = .ok (.slice a 0 0) w:=by
 simp[Instr.sliceAt,run_underlying hu,Instr.slice,Instr.sliceBounds,Instr.sliceBound,asIntOf,run_sizeOf hi]
theorem AKV{w:World}{F:Nat→Prop}{m:Mp}{H:List Ob}{v:AV}(h:Fy H v=true){u:Value}(hr:Rep w F m H v u):∃ a len cap,u = .slice a len cap:=by
 cases v with
 |data t d=>
  cases t<;>simp only[Fy,Ajf]at h
  rename_i t
  have hrx:Dat w F (.slice t) d [u]:=hr
  obtain⟨a,cap,e1,_⟩:=hrx
  simp only[Aje,Alx]at e1
  exact⟨_,_,_,e1⟩
 |nils e=>unfold Rep at hr;exact⟨_,_,_,hr⟩
 |own id=>
  obtain⟨T,t,xs,ho⟩:=Dw h
  unfold Rep at hr;rw[ho]at hr
  cases hm:m id with
  |none=>rw[hm]at hr;obtain⟨a,e1⟩:=hr;exact⟨_,_,_,e1⟩
  |some p=>rw[hm]at hr;exact⟨_,_,_,hr⟩
 |win id off n=>
  obtain⟨T,t,xs,ho⟩:=Dw h
  unfold Rep at hr;rw[ho]at hr
  obtain⟨_,hr⟩:=hr
  cases hm:m id with
  |none=>rw[hm]at hr;obtain⟨a,e1⟩:=hr;exact⟨_,_,_,e1⟩
  |some p=>rw[hm]at hr;obtain⟨a,e1,_⟩:=hr;exact⟨_,_,_,e1⟩
 |_=>simp[Fy]at h
theorem AAg{w:World}{T e:TypeId}{i:TypeInfo}(hu:P.underlying T=some (.slice e))(hi:P.info? e=some i)(a:Option Addr)(len cap:Nat){lo:Option Value}{l h:Int}{kh km:IntKind}
  (hlo:(lo=none∧l=0)∨∃ k,lo=some (.int k l)) (h0:0≤l) (h1:l≤h) (h2:h≤cap) :
  (Instr.sliceAt T (.slice a len cap) lo (some (.int kh h)) (some (.int km h))).run P w = .ok (.slice (if h.toNat=l.toNat then a else a.map (·.add (l.toNat*i.size))) (h.toNat-l.toNat) (h.toNat-l.toNat)) w:=by
 have hb:(Instr.sliceBounds true len cap lo (some (.int kh h)) (some (.int km h))).run P w = .ok (l.toNat,h.toNat,h.toNat) w:=by
  obtain⟨l,rfl⟩:=AjU h0
  obtain⟨h,rfl⟩:=AjU (show 0≤h by omega)
  have h1:l≤h:=by omega
  have h2:h≤cap:=by omega
  rcases hlo with⟨rfl,e2⟩|⟨k',rfl⟩
  ·have e3:l=0:=by omega
   subst e3
   simp[Instr.sliceBounds,Instr.sliceBound,asIntOf,h2]
  ·simp[Instr.sliceBounds,Instr.sliceBound,asIntOf,h1,h2]
 simp only[Instr.sliceAt,Sem.run_bind,run_underlying hu,Result.andThen_ok,Instr.slice,hb,run_sizeOf hi,Sem.run_pure]
theorem Yo(T:TypeId)(x:Operand)(lo up:Option Operand)(mx:Operand):Claim P E (.slice T x lo up (some mx)):=by
 intro R ty ρ H fz slot k r h
 simp only[evalOp]at h
 split at h
 ·rename_i e hu
  split at h
  ·rename_i u
   split at h
   ·rename_i l n n' hl hn hm
    split at h
    ·rename_i t xs hx
     split at h
     ·rename_i hsz
      split at h
      ·rename_i hnn
       split at h
       ·cases h
       rename_i ys hs
       refine⟨_,_,h,fun R' k'=>by simp only[evalOp,hu,hl,hn,hm,hx,hsz,hnn,hs],AW fun w F m ρc o hop hty hi hr => ?_⟩
       obtain⟨a1,a2,a3,rfl⟩:=Ha hs
       rw[B9,Akz]at hnn
       subst hnn
       simp only[AjJ]at hsz
       obtain⟨i,hi0,hsz'⟩:=BD hsz
       have hrx:=hr x
       rw[hx]at hrx
       have hrx:Dat w F (.slice t) xs [ρc x]:=hrx
       obtain⟨a,cap,e1,e2,e3⟩:=hrx
       simp only[Aje,Alx]at e1
       obtain⟨k1,hup⟩:=LY hn (hr (.tmp u))
       obtain⟨k2,hmx⟩:=LY hm (hr mx)
       have hrun:=AAg (P:=P) (w:=w) (kh:=k1) (km:=k2) hu hi0 a (List.length (α:=t.den) xs) cap (QA hr hl 0) a1 a2 (by omega)
       refine⟨.slice (if n.toNat=(l.getD 0).toNat then a else a.map (·.add ((l.getD 0).toNat*i.size))) (n.toNat-(l.getD 0).toNat) (n.toNat-(l.getD 0).toNat),by simp[execOp,hop,e1,hup,hmx,hrun],?_⟩
       have hlen:((xs.take n.toNat).drop (l.getD 0).toNat).length=n.toNat-(l.getD 0).toNat:=by
        rw[Aj3,Ajb];omega
       unfold Rep
       refine⟨⟨_,_,by rw[hlen],by rw[hlen];omega,fun hne => ?_⟩,_,by rw[hlen]⟩
       have hpos:(l.getD 0).toNat<n.toNat:=by
        rcases Aj5 (l.getD 0).toNat n.toNat with hh'|hh'
        ·exact hh'
        ·exact absurd (Ajg (by rw[hlen];omega)) hne
       have hxne:xs≠[]:=by rintro rfl;simp at hne
       obtain⟨ad,row,q1,q2,q3,q4⟩:=e3 hxne
       have hk:=fun(x:t.den) cs (h:Dat w F t x cs)=>Dat.length t h
       refine⟨ad.add ((l.getD 0).toNat*t.size),_,?_,by rw[Hi];exact q2,Hc hk (l.getD 0).toNat (Ds hk n.toNat q3),fun j u hu' => ?_⟩
       ·rw[AjQ (by omega),q1,hsz'];rfl
       ·rw[add_add]
        rw[AkH,Aj7]at hu'
        split at hu'
        ·exact q4 _ u hu'
        ·cases hu'
      ·cases h
     ·cases h
    ·cases h
   ·cases h
  ·rename_i hnt
   split at h
   ·rename_i e' t hl hh hm hsl
    obtain⟨hu',hty',hpos⟩:=Bt hsl
    split at h
    ·rename_i n hx hs
     split at h
     ·rename_i hf
      refine⟨_,_,h,fun R' k' => ?_,A4 fun w F m ρc o hop hty hi hr => ?_⟩
      ·rcases up with _|q
       ·simp only[evalOp,hu,hl,hh,hm,hsl,hx,hs,hf]
       ·cases q with
        |tmp u=>exact absurd rfl (hnt u)
        |_=>simp only[evalOp,hu,hl,hh,hm,hsl,hx,hs,hf]
      obtain⟨i,hi0,_⟩:=BD hs
      have hslice:=AKV hx (hr x)
      obtain⟨a,len,cap,e1⟩:=hslice
      have hlo:lo.map ρc=none:=by
       rcases NQ hr hl with⟨h1,_⟩|⟨_,_,_,h2⟩
       ·exact h1
       ·cases h2
      have hup:∃ k,up.map ρc=some (.int k 0):=by
       rcases NQ hr hh with⟨_,h2⟩|⟨k,n,h1,h2⟩
       ·cases h2
       ·cases h2;exact⟨k,h1⟩
      obtain⟨k1,hup⟩:=hup
      obtain⟨k2,hmx⟩:=LY hm (hr mx)
      have hrun:=YY (P:=P) (w:=w) hu hi0 a len cap k1 k2
      obtain⟨m',hg,hrep⟩:=Dd hi hf e hpos a
      exact⟨_,w,F,m',by simp[execOp,hop,e1,hlo,hup,hmx,hrun],hg,hrep⟩
     ·cases h
    ·cases h
   ·cases h
 ·cases h
 ·cases h
theorem SA{T:TypeId}{f off size:Nat}{ag:Bool}(h:fieldAt P T f=some (off,size,ag)):∃ fs fd i,P.underlying T=some (.struct fs)∧fs[f]? = some fd∧P.info? fd.type=some i∧fd.offset=off∧i.size=size∧EE P fd.type=some ag:=by
 unfold fieldAt at h
 split at h
 ·rename_i fs hu
  split at h
  ·rename_i fd hf
   split at h
   ·rename_i i ag' hi ha
    simp only[AjH,Ajl]at h
    obtain⟨rfl,rfl,rfl⟩:=h
    exact⟨fs,fd,i,hu,hf,hi,rfl,rfl,ha⟩
   ·cases h
  ·cases h
 ·cases h
theorem Jg{w:World}{T:TypeId}{f off size:Nat}{ag:Bool}(h:fieldAt P T f=some (off,size,ag))(hs:size≠0)(a:Addr):(Instr.fieldAt T (.pointer (some a)) f).run P w = .ok (.pointer (some (a.add off))) w:=by
 obtain⟨fs,fd,i,hu,hf,hi,rfl,rfl,ha⟩:=SA h
 simp[Instr.fieldAt,run_underlying hu,hf,Instr.sureAddr,fieldPlace,run_sizeOf hi,hs]
theorem Ys(T:TypeId)(x:Operand)(f:Nat):Claim P E (.fieldAddr T x f):=by
 intro R ty ρ H fz slot k r h
 simp only[evalOp]at h
 split at h
 ·cases h
 ·rename_i off size ag hf
  split at h
  ·cases h
  ·rename_i hs
   simp only[AkA]at hs
   split at h
   ·rename_i id o' hx
    split at h
    ·rename_i hl
     obtain⟨cs,ho⟩:=LP hl
     refine⟨_,_,h,fun R' k'=>by simp only[evalOp,hf,hs,Ajj,hx,hl],AW fun w F m ρc o hop hty hi hr => ?_⟩
     obtain⟨b,c,vs,T,e1,e2,_⟩:=Sa hi ho (hx▸hr x)
     refine⟨.pointer (some ⟨b,o'+off,none⟩),by simp[execOp,hop,e2,Jg hf hs,CC],?_⟩
     unfold Rep;rw[ho];exact⟨b,c,e1,rfl⟩
    ·cases h
   ·rename_i id i s hx
    split at h
    ·rename_i hl
     obtain⟨T',t,xs,ho⟩:=Dw hl
     refine⟨_,_,h,fun R' k'=>by simp only[evalOp,hf,hs,Ajj,hx,hl],AW fun w F m ρc o hop hty hi hr => ?_⟩
     obtain⟨b,c,vs,row,e1,e2,e3,_⟩:=L0 hi ho (hx▸hr x)
     refine⟨.pointer (some ⟨b,i*t.size+s+off,none⟩),by simp[execOp,hop,e2,Jg hf hs,CC],?_⟩
     unfold Rep;rw[ho];exact⟨e3,b,c,e1,by rw[Al4]⟩
    ·cases h
   ·rename_i cs hx
    refine⟨_,_,h,fun R' k'=>by simp only[evalOp,hf,hs,Ajj,hx],AW fun w F m ρc o hop hty hi hr => ?_⟩
    have hrx:=hr x
    rw[hx]at hrx
    unfold Rep at hrx
    obtain⟨ad,us,e1,e2,e3,e4,e5⟩:=hrx
    refine⟨.pointer (some (ad.add off)),by simp[execOp,hop,e1,Jg hf hs],?_⟩
    unfold Rep
    exact⟨ad.add off,us.drop off,rfl,fun hne=>by rw[Hi];exact e2 (by rintro rfl;simp at hne),E3 e3 off,fun u hu=>e4 u (Aks hu),fun j u hu=>by
     rw[add_add];rw[AkH]at hu;exact e5 _ u hu⟩
   ·cases h
theorem AAh{w:World}{F:Nat→Prop}{m:Mp}{H:List Ob}{T:TypeId}{i:TypeInfo}{ag:Bool}(hi:P.info? T=some i)(ha:EE P T=some ag){cs:List AV}{v:AV}{us:Array Value}{off:Nat}
  (hl:loadCells ag i.size (cs.drop off)=some v) (hr:Ad w F m H cs us.toList) (h1:∀ u∈us.toList,u.oneCell'=true):∃ u,(part T us off).run P w = .ok u w∧Rep w F m H v u:=by
 unfold loadCells at hl
 cases ag with
 |true=>
  simp only at hl
  split at hl
  ·rename_i hle
   simp only[AjH]at hl;subst hl
   refine⟨.agg (us.extract off (off+i.size)),by simp[part,CT ha,run_sizeOf hi],?_⟩
   unfold Rep
   refine⟨_,rfl,?_,?_⟩
   ·rw[Array.toList_extract,Al9,show off+i.size-off=i.size from by omega]
    exact Oo (E3 hr off) _
   ·intro u hu
    rw[Array.toList_extract,Al9]at hu
    exact h1 u (Aks (AlR hu))
  ·cases hl
 |false=>
  simp only at hl
  have hg:cs[off]? = some v:=by
   rw[List.head?_drop]at hl;exact hl
  obtain⟨u,h2,h3⟩:=CR hr hg
  refine⟨u,?_,h3⟩
  have:us[off]? = some u:=by simpa using h2
  simp[part,CT ha,this]
theorem AP9(T:TypeId)(x:Operand)(f:Nat):Claim P E (.field T x f):=by
 intro R ty ρ H fz slot k r h
 simp only[evalOp]at h
 split at h
 ·cases h
 ·rename_i off size ag hf
  split at h
  ·rename_i cs hc hag
   split at h
   ·rename_i v hl
    refine⟨_,_,h,fun R' k'=>by simp only[evalOp,hf,hc,hag,hl],AW fun w F m ρc o hop hty hi hr => ?_⟩
    obtain⟨fs,fd,i,hu,hfd,hi0,rfl,rfl,ha⟩:=SA hf
    obtain⟨vs,e1⟩:=Nv hag (hr x)
    have hrc:=cells?_ok hc (hr x)
    have h1:=cells?_one hc (hr x)
    rw[e1]at hrc h1
    obtain⟨u,q1,q2⟩:=AAh (P:=P) hi0 ha hl hrc h1
    refine⟨u,?_,q2⟩
    simp only[Value.cells]at q1
    simp[execOp,hop,e1,Instr.field,run_underlying hu,hfd,Go.asAgg,q1]
   ·cases h
  ·cases h
theorem AFy(x:Operand)(i:Nat):Claim P E (.extract x i):=by
 intro R ty ρ H fz slot k r h
 simp only[evalOp]at h
 split at h
 ·rename_i vs hx
  split at h
  ·rename_i v hv
   refine⟨_,_,h,fun R' k'=>by simp only[evalOp,hx,hv],AW fun w F m ρc o hop hty hi hr => ?_⟩
   have hrx:=hr x
   rw[hx]at hrx
   unfold Rep at hrx
   obtain⟨us,e1,e2⟩:=hrx
   obtain⟨u,h1,h2⟩:=CR e2 hv
   exact⟨u,by
    have:us[i]? = some u:=by simpa using h1
    simp[execOp,hop,e1,Instr.extract,this],h2⟩
  ·cases h
 ·cases h
end
end Go.Pev
end
section
namespace Go.Pev
open Go.RowKit
section
variable {P:Program} {E:Env}
theorem Xt{T:TypeId}{size:Nat}{ag:Bool}(h:elemAt P T=some (size,ag)):∃ n e i,P.underlying T=some (.array n e)∧P.info? e=some i∧i.size=size∧EE P e=some ag:=by
 unfold elemAt at h
 split at h
 ·rename_i n e hu
  split at h
  ·rename_i i ag' hi ha
   simp only[AjH,Ajl]at h
   obtain⟨rfl,rfl⟩:=h
   exact⟨n,e,i,hu,hi,rfl,ha⟩
  ·cases h
 ·cases h
theorem AFs{x:Operand}{s:ByteArray}(h:ADb x=some s):x = .const (.string s):=by
 unfold ADb at h
 split at h
 ·simp only[AjH]at h;subst h;rfl
 ·cases h
theorem AUB{k:IntKind}:∀ {cs:List AV} {ns:List Int} {i:Nat} {d:Int},QH k cs=some ns→ns[i]? = some d→cs[i]? = some (.data (.int k) d):=by
 intro cs
 induction cs with
 |nil=>intro ns i d h hi;simp only[QH,AjH]at h;subst h;simp at hi
 |cons c cs ih=>
  intro ns i d h hi
  cases c with
  |data t x=>
   cases t with
   |int j=>
    simp only[QH]at h
    split at h
    ·rename_i ns' hj hns
     simp only[AjJ]at hj
     subst hj
     simp only[AjH]at h
     subst h
     cases i with
     |zero=>simp only[Aj0,AjH]at hi ⊢;rw[hi]
     |succ i=>simp only[AlV]at hi ⊢;exact ih hns hi
    ·cases h
   |_=>simp[QH]at h
  |_=>simp[QH]at h
theorem AP8(T:TypeId)(x y:Operand):Claim P E (.index T x y):=by
 intro R ty ρ H fz slot k r h
 simp only[evalOp]at h
 split at h
 ·rename_i s hcs
  split at h
  ·rename_i j i hu hy
   split at h
   ·rename_i b hb
    refine⟨_,_,h,fun R' k'=>by simp only[evalOp,hcs,hu,hy,hb],fun w F m a o next Q hop hty hi hr hn => ?_⟩
    have e2:=BA (hy▸hr y)
    have hx:=AFs hcs
    subst hx
    rw[idx_eq]at hb
    unfold O6 at hb
    split at hb
    ·cases hb
    ·rename_i hi0
     have hi1:(0:Int)≤i:=Int.not_lt.1 hi0
     have he:a.eval (.const (.string s)) = .string s:=rfl
     have hrun:(execOp a.eval o).run P w = .ok (.value (.int .u8 b)) w:=by
      have hb':s[i.toNat]? = some (UInt8.ofNat b.toNat)∧((UInt8.ofNat b.toNat).toNat:Int)=b:=by
       unfold bytesOf at hb
       rw[Ajq,AjX]at hb
       obtain⟨c,h1,rfl⟩:=hb
       have e:UInt8.ofNat (c.toNat:Int).toNat=c:=by simp
       rw[e]
       refine⟨?_,rfl⟩
       rw[Alc]at h1
       have hlt:i.toNat<s.data.size:=by
        rcases Aj5 i.toNat s.data.size with h'|h'
        ·exact h'
        ·rw[Array.getElem?_eq_none h']at h1;cases h1
       rw[AkX hlt]at h1
       simp only[AjH]at h1
       have hlt2:i.toNat<s.size:=hlt
       rw[getElem?_pos s i.toNat hlt2]
       exact Akf some h1
      have h2:=hb'.2
      generalize UInt8.ofNat b.toNat=c at hb' h2
      subst h2
      simp[execOp,hop,e2,he,Instr.index,asIntOf,run_underlying hu,hi1,hb'.1]
     unfold Oper.wp
     rw[hrun]
     have:=hn (.int .u8 b) w F m (Ap.refl hi) (A1 _ _)
     exact this
   ·cases h
  ·cases h
 ·rename_i hcs
  split at h
  ·rename_i hE
   split at h
   ·rename_i n e j i he hu hy
    split at h
    ·rename_i cs kk hc hag hkk
     split at h
     ·rename_i ns hns
      split at h
      ·rename_i hd
       split at h
       ·cases h
       rename_i d hid
       refine⟨_,_,h,fun R' k'=>by simp only[evalOp,hcs,hE,he,hu,hy,hc,hag,hkk,hns,hd,hid],AW fun w F m ρc o hop hty hi hr => ?_⟩
       obtain⟨n',e',i',hu',hi0,hsz,ha⟩:=Xt he
       rw[hu]at hu';cases hu'
       simp only[AjJ]at hd
       obtain⟨a1,a2,a3⟩:=Ae hid
       obtain⟨vs,e1⟩:=Nv hag (hr x)
       have e2:=BA (hy▸hr y)
       have hrc:=cells?_ok hc (hr x)
       have h1:=cells?_one hc (hr x)
       rw[e1]at hrc h1
       have hl:loadCells false i'.size (cs.drop (i.toNat*i'.size))=some (.data (.int kk) d):=by
        rw[hsz,AlY]
        unfold loadCells
        simp only
        rw[List.head?_drop]
        exact AUB hns a3
       obtain⟨u,q1,q2⟩:=AAh (P:=P) hi0 ha hl hrc h1
       refine⟨u,?_,q2⟩
       simp only[Value.cells]at q1
       have hd1:0≤i:=a1
       have hd2:i<(n:Int):=by rw[← hd];exact a2
       simp[execOp,hop,e1,e2,Instr.index,asIntOf,run_underlying hu,hd1,hd2,run_sizeOf hi0,q1]
      ·cases h
     ·cases h
    ·cases h
   ·cases h
  rename_i hE
  split at h
  ·rename_i size ag n e j i he hu hy
   split at h
   ·rename_i hd
    split at h
    ·rename_i cs hc hag
     split at h
     ·rename_i v hl
      refine⟨_,_,h,fun R' k'=>by simp only[evalOp,hcs,hE,he,hu,hy,hd,hc,hag,hl],AW fun w F m ρc o hop hty hi hr => ?_⟩
      obtain⟨n',e',i',hu',hi0,rfl,ha⟩:=Xt he
      rw[hu]at hu';cases hu'
      simp only[AjJ]at hd
      obtain⟨vs,e1⟩:=Nv hag (hr x)
      have e2:=BA (hy▸hr y)
      have hrc:=cells?_ok hc (hr x)
      have h1:=cells?_one hc (hr x)
      rw[e1]at hrc h1
      obtain⟨u,q1,q2⟩:=AAh (P:=P) hi0 ha hl hrc h1
      refine⟨u,?_,q2⟩
      simp only[Value.cells]at q1
      have hd1:0≤i:=hd.1
      have hd2:i<(n:Int):=hd.2
      simp[execOp,hop,e1,e2,Instr.index,asIntOf,run_underlying hu,hd1,hd2,run_sizeOf hi0,q1]
     ·cases h
    ·cases h
   ·cases h
  ·cases h
theorem DI{w:World}{T e:TypeId}{i:TypeInfo}(hu:P.underlying T=some (.slice e))(hi:P.info? e=some i)(ad:Addr)(len cap:Nat)(k:IntKind){n:Int}(h0:0≤n)(h1:n<len):
  (Instr.indexAt T (.slice (some ad) len cap) (.int k n)).run P w = .ok (.pointer (some (ad.add (n.toNat*i.size)))) w:=by
 simp[Instr.indexAt,asIntOf,run_underlying hu,h0,h1,run_sizeOf hi]
theorem Be{w w':World}{ρc:Operand→Value}{o:Oper}{T:TypeId}{x y:Operand}{v n u:Value}(hop:o.op = .indexAddr T x y)(e1:ρc x=v)(e2:ρc y=n)
  (hrun:(Instr.indexAt T v n).run P w = .ok u w'):(execOp ρc o).run P w = .ok (.value u) w':=by simp[execOp,hop,e1,e2,hrun]
theorem Yr(T:TypeId)(x y:Operand):Claim P E (.indexAddr T x y):=by
 intro R ty ρ H fz slot k r h
 simp only[evalOp]at h
 split at h
 ·rename_i e j i hu hy
  split at h
  ·rename_i t xs hx
   split at h
   ·rename_i hsz
    split at h
    ·rename_i d hd
     refine⟨_,_,h,fun R' k'=>by simp only[evalOp,hu,hy,hx,hsz,hd],AW fun w F m ρc o hop hty hi hr => ?_⟩
     simp only[AjJ]at hsz
     obtain⟨i',hi0,hsz'⟩:=BD hsz
     obtain⟨a1,a2,a3⟩:=Ae hd
     have hrx:=hr x
     rw[hx]at hrx
     have hrx:Dat w F (.slice t) xs [ρc x]:=hrx
     obtain⟨a,cap,e1,e2,e3⟩:=hrx
     simp only[Aje,Alx]at e1
     have hne:xs≠[]:=by rintro rfl;simp at a3
     obtain⟨ad,row,rfl,q2,q3,q4⟩:=e3 hne
     have hk:=fun(x:t.den) cs (h:Dat w F t x cs)=>Dat.length t h
     have hg:=KM hk q3 a3
     refine⟨_,Be hop e1 (BA (hy▸hr y)) (DI hu hi0 ad _ cap j a1 a2),?_⟩
     unfold Rep
     refine⟨_,(row.drop (i.toNat*t.size)).take t.size,rfl,fun _=>by rw[Hi];exact q2,IU t hg,Dat.HP t hg,fun k u hu' => ?_⟩
     rw[add_add,hsz']
     rw[Aj7]at hu'
     split at hu'
     ·rw[AkH]at hu'
      exact q4 _ u hu'
     ·cases hu'
    ·cases h
   ·cases h
  ·rename_i id hx
   split at h
   ·rename_i T' t xs ho
    split at h
    ·rename_i hsz
     split at h
     ·rename_i d hd
      refine⟨_,_,h,fun R' k'=>by simp only[evalOp,hu,hy,hx,ho,hsz,hd],AW fun w F m ρc o hop hty hi hr => ?_⟩
      simp only[AjJ]at hsz
      obtain⟨i',hi0,hsz'⟩:=BD hsz
      obtain⟨a1,a2,a3⟩:=Ae hd
      have hrx:=hr x
      rw[hx]at hrx
      unfold Rep at hrx
      rw[ho]at hrx
      obtain⟨hpos,hob⟩:=hi.obj id _ ho
      cases hm:m id with
      |none=>rw[hm]at hob;simp only at hob;subst hob;simp at a3
      |some p=>
       obtain⟨b,cap⟩:=p
       rw[hm]at hrx
       simp only[A8]at hrx
       refine⟨_,Be hop hrx (BA (hy▸hr y)) (DI hu hi0 ⟨b,0,none⟩ _ cap j a1 a2),?_⟩
       unfold Rep
       rw[ho]
       exact⟨by unfold AN;omega,b,cap,hm,by rw[CC,hsz'];simp[AN]⟩
     ·cases h
    ·cases h
   ·rename_i T' tgt is ho
    split at h
    ·rename_i hsz
     split at h
     ·rename_i d hd
      refine⟨_,_,h,fun R' k'=>by simp only[evalOp,hu,hy,hx,ho,hsz,hd],AW fun w F m ρc o hop hty hi hr => ?_⟩
      simp only[AjJ]at hsz
      obtain⟨i',hi0,hsz'⟩:=BD hsz
      obtain⟨a1,a2,a3⟩:=Ae hd
      have hrx:=hr x
      rw[hx]at hrx
      unfold Rep at hrx
      rw[ho]at hrx
      have hob:=hi.obj id _ ho
      cases hm:m id with
      |none=>rw[hm]at hob;have hob:is=[]:=hob;subst hob;simp at a3
      |some p=>
       obtain⟨b,cap⟩:=p
       rw[hm]at hrx
       simp only[A8]at hrx
       refine⟨_,Be hop hrx (BA (hy▸hr y)) (DI hu hi0 ⟨b,0,none⟩ _ cap j a1 a2),?_⟩
       unfold Rep
       rw[ho]
       exact⟨by unfold AN;omega,b,cap,hm,by rw[CC,hsz'];simp[AN]⟩
     ·cases h
    ·cases h
   ·rename_i T' e' t xs ver out ho
    split at h
    ·rename_i hsz
     split at h
     ·rename_i d hd
      refine⟨_,_,h,fun R' k'=>by simp only[evalOp,hu,hy,hx,ho,hsz,hd],AW fun w F m ρc o hop hty hi hr => ?_⟩
      simp only[AjJ]at hsz
      obtain⟨i',hi0,hsz'⟩:=BD hsz
      obtain⟨a1,a2,a3⟩:=Ae hd
      have hrx:=hr x
      rw[hx]at hrx
      unfold Rep at hrx
      rw[ho]at hrx
      obtain⟨hpos,hob⟩:=hi.obj id _ ho
      cases hm:m id with
      |none=>rw[hm]at hob;obtain⟨_,hob⟩:=hob;subst hob;simp at a3
      |some p=>
       obtain⟨b,cap⟩:=p
       rw[hm]at hrx
       simp only[A8]at hrx
       refine⟨_,Be hop hrx (BA (hy▸hr y)) (DI hu hi0 ⟨b,0,none⟩ _ cap j a1 a2),?_⟩
       unfold Rep
       rw[ho]
       exact⟨by unfold AN;omega,b,cap,hm,by rw[CC,hsz'];simp[AN]⟩
     ·cases h
    ·cases h
   ·cases h
  ·rename_i id off n hx
   split at h
   ·rename_i T' t xs ho
    split at h
    ·rename_i hsz
     split at h
     ·rename_i d hd
      refine⟨_,_,h,fun R' k'=>by simp only[evalOp,hu,hy,hx,ho,hsz,hd],AW fun w F m ρc o hop hty hi hr => ?_⟩
      simp only[AjJ]at hsz
      obtain⟨i',hi0,hsz'⟩:=BD hsz
      obtain⟨a1,a2,a3⟩:=Ae hd
      have hrx:=hr x
      rw[hx]at hrx
      unfold Rep at hrx
      rw[ho]at hrx
      obtain⟨hle,hrx⟩:=hrx
      have hcl:(DK off n xs).length=n:=by unfold DK;rw[Ajb,Aj3];omega
      rw[hcl]at a2
      obtain⟨hpos,hob⟩:=hi.obj id _ ho
      cases hm:m id with
      |none=>
       rw[hm]at hob;simp only at hob;subst hob
       have:n=0:=by have:=hle;simp at this;exact this.2
       omega
      |some p=>
       obtain⟨b,cap⟩:=p
       rw[hm]at hrx hob
       obtain⟨vs,row,e1,e2,_⟩:=hob
       obtain⟨a,e3,e4⟩:=hrx
       have e4:=e4 (by omega)
       subst e4
       refine⟨_,Be hop e3 (BA (hy▸hr y)) (DI hu hi0 ⟨b,off*t.size,none⟩ _ _ j a1 a2),?_⟩
       unfold Rep
       rw[ho]
       exact⟨by unfold AN;omega,b,cap,hm,by rw[CC,hsz'];simp[AN,AkJ]⟩
     ·cases h
    ·cases h
   ·cases h
  ·cases h
 ·rename_i n e j i hu hy
  cases hat:AEL H n (ρ x)with
  |some q=>
   obtain⟨id,s,len⟩:=q
   rw[hat]at h
   simp only at h
   split at h
   ·rename_i hs
    split at h
    ·rename_i hc
     refine⟨_,_,h,fun R' k'=>by simp only[evalOp,hu,hy,hat,hs,hc],AW fun w F m ρc o hop hty hi hr => ?_⟩
     simp only[AjJ]at hs
     obtain⟨i',hi0,hsz'⟩:=BD hs
     simp only[AjK,Ar,Ag,AjJ]at hc
     obtain⟨hd1,hd2,hd3⟩:=hc
     have hd1:(0:Int)≤i:=hd1
     have hd2:i<(n:Int):=hd2
     unfold AEL at hat
     split at hat
     ·rename_i id' n' hx
      split at hat
      ·rename_i T' t xs ho
       split at hat
       ·cases hat
        have hrx:=hr x
        rw[hx]at hrx
        unfold Rep Fb at hrx
        rw[ho]at hrx
        obtain⟨_,b,e1,e2⟩:=hrx
        have hrun:(Instr.indexAt T (.pointer (some ⟨b,0,none⟩)) (.int j i)).run P w = .ok (.pointer (some ((⟨b,0,none⟩:Addr).add (i.toNat*i'.size)))) w:=by
         simp[Instr.indexAt,asIntOf,run_underlying hu,Instr.sureAddr,hd1,hd2,run_sizeOf hi0]
        refine⟨_,Be hop e2 (BA (hy▸hr y)) hrun,?_⟩
        unfold Rep;rw[ho]
        refine⟨?_,b,_,e1,by rw[CC,hsz'];simp[AN]⟩
        exact(Int.toNat_lt (n:=List.length (α:=t.den) xs) hd1).2 hd3
       ·cases hat
      ·cases hat
     ·cases hat
    ·cases h
   ·cases h
  |none=>
  rw[hat]at h
  simp only at h
  cases hg:gAt (ρ x)with
  |some q=>
   obtain⟨kk,ns⟩:=q
   rw[hg]at h
   simp only at h
   split at h
   ·rename_i hs
    split at h
    ·rename_i hc
     refine⟨_,_,h,fun R' k'=>by simp only[evalOp,hu,hy,hat,hg,hs,hc],AW fun w F m ρc o hop hty hi hr => ?_⟩
     simp only[AjJ]at hs
     obtain⟨i',hi0,hsz'⟩:=BD hs
     simp only[AjK,Ar,Ag,AjJ]at hc
     obtain⟨hd1,hd2,hd3⟩:=hc
     have hd1:(0:Int)≤i:=hd1
     have hd2:i<(n:Int):=hd2
     unfold gAt at hg
     split at hg
     ·rename_i g hx
      have hrx:=hr x
      rw[hx]at hrx
      unfold Rep at hrx
      simp only[AjX]at hg
      obtain⟨p,hp,hp2⟩:=hg
      have hpm:=List.mem_of_find?_eq_some hp
      have hpg:p.1=g:=by simpa using List.find?_some hp
      obtain⟨g1,g2⟩:=hi.glo p hpm
      rw[hp2]at g2
      have hrun:(Instr.indexAt T (.pointer (some ⟨g,0,none⟩)) (.int j i)).run P w = .ok (.pointer (some ((⟨g,0,none⟩:Addr).add (i.toNat*i'.size)))) w:=by
       simp[Instr.indexAt,asIntOf,run_underlying hu,Instr.sureAddr,hd1,hd2,run_sizeOf hi0]
      refine⟨_,Be hop hrx (BA (hy▸hr y)) hrun,?_⟩
      have hlt:i.toNat<ns.length:=(Int.toNat_lt hd1).2 hd3
      unfold Rep
      refine⟨_,[.int kk (AY ns (AN i) 0)],rfl,fun _=>by rw[Hi,← hpg];exact g1,?_,fun u hu => ?_,fun jj u hu => ?_⟩
      ·unfold Ad;exact⟨_,_,rfl,by unfold Rep Bg;exact rfl,by unfold Ad;rfl⟩
      ·rw[Ajk]at hu;subst hu;rfl
      ·cases jj with
       |zero=>
        simp only[Aj0,AjH]at hu
        subst hu
        rw[CC,CC,hsz',AlY,AkI,Akc,← hpg]
        exact g2 i.toNat _ (by rw[AjM hlt];simp[AY,AN,hlt])
       |succ jj=>simp at hu
     ·cases hg
    ·cases h
   ·cases h
  |none=>
  rw[hg]at h
  simp only at h
  split at h
  ·rename_i s hs hd
   obtain⟨i',hi0,rfl⟩:=BD hs
   have hd':=hd
   simp only[AjJ]at hd'
   have hd1:0≤i:=hd'.1
   have hd2:i<(n:Int):=hd'.2
   have hrun:∀ (w:World) (ad:Addr),(Instr.indexAt T (.pointer (some ad)) (.int j i)).run P w = .ok (.pointer (some (ad.add (i.toNat*i'.size)))) w:=by
    intro w ad
    simp[Instr.indexAt,asIntOf,run_underlying hu,Instr.sureAddr,hd1,hd2,run_sizeOf hi0]
   split at h
   ·rename_i id o' hx
    split at h
    ·rename_i hl
     obtain⟨cs,ho⟩:=LP hl
     refine⟨_,_,h,fun R' k'=>by
      have hat':=hat
      have hg':=hg
      rw[hx]at hat' hg'
      simp only[evalOp,hu,hy,hat',hg',hs,hd,hx,hl],AW fun w F m ρc o hop hty hi hr => ?_⟩
     obtain⟨b,c,vs,T,e1,e2,_⟩:=Sa hi ho (hx▸hr x)
     refine⟨_,Be hop e2 (BA (hy▸hr y)) (hrun w _),?_⟩
     unfold Rep;rw[ho];exact⟨b,c,e1,by rw[CC]⟩
    ·cases h
   ·rename_i id jj s hx
    split at h
    ·rename_i hl
     obtain⟨T',t,xs,ho⟩:=Dw hl
     refine⟨_,_,h,fun R' k'=>by
      have hat':=hat
      have hg':=hg
      rw[hx]at hat' hg'
      simp only[evalOp,hu,hy,hat',hg',hs,hd,hx,hl],AW fun w F m ρc o hop hty hi hr => ?_⟩
     obtain⟨b,c,vs,row,e1,e2,e3,_⟩:=L0 hi ho (hx▸hr x)
     refine⟨_,Be hop e2 (BA (hy▸hr y)) (hrun w _),?_⟩
     unfold Rep;rw[ho];exact⟨e3,b,c,e1,by rw[CC,Al4]⟩
    ·cases h
   ·rename_i cs hx
    refine⟨_,_,h,fun R' k'=>by
      have hat':=hat
      have hg':=hg
      rw[hx]at hat' hg'
      simp only[evalOp,hu,hy,hat',hg',hs,hd,hx],AW fun w F m ρc o hop hty hi hr => ?_⟩
    have hrx:=hr x
    rw[hx]at hrx
    unfold Rep at hrx
    obtain⟨ad,us,e1,e2,e3,e4,e5⟩:=hrx
    refine⟨_,Be hop e1 (BA (hy▸hr y)) (hrun w _),?_⟩
    unfold Rep
    exact⟨_,us.drop (i.toNat*i'.size),rfl,fun hne=>by rw[Hi];exact e2 (by rintro rfl;simp at hne),E3 e3 _,fun u hu=>e4 u (Aks hu),fun j u hu=>by
     rw[add_add];rw[AkH]at hu;exact e5 _ u hu⟩
   ·cases h
  ·cases h
 ·cases h
end
end Go.Pev
end
section
namespace Go.Pev
open Go.RowKit
section
variable {P:Program} {E:Env}
theorem Aa1{α:Type}{a:Array α}{x:α}(h:a.toList=[x]):a = #[x]:=by rw[← AlF (xs:=a),h]
theorem AhL{α:Type}{a:Array α}{x y:α}(h:a.toList=[x,y]):a = #[x,y]:=by rw[← AlF (xs:=a),h]
theorem ADL{w:World}{F:Nat→Prop}{a b:Ty}:∀ {es:List (a.den×b.den)} {ms:List MapEntry},Iu w F a b es ms→ms.length=es.length:=by
 intro es
 induction es with
 |nil=>rintro ms rfl;rfl
 |cons e es ih=>rintro ms ⟨me,ms',rfl,_,h⟩;simp[ih h]
theorem FM{w w':World}{ρc:Operand→Value}{o:Oper}{T:TypeId}{x:Operand}{v u:Value}(hop:o.op = .call { callee:=.builtin .len,args:=#[x],argTypes:=#[T] })(e1:ρc x=v)
  (hrun:(Builtin.len_ #[T] o.type #[v]).run P w = .ok u w'):(execOp ρc o).run P w = .ok (.value u) w':=by simp[execOp,hop,resolve,invoke,builtin,e1,hrun]
theorem B0{w:World}{T e ty:TypeId}(hu:P.underlying T=some (.slice e))(a:Option Addr)(n c:Nat):(Builtin.len_ #[T] ty #[.slice a n c]).run P w = .ok (.int .i64 n) w:=by
 simp[Builtin.len_,run_underlying hu,goInt]
theorem Aaf(args:Array Operand)(ts:Array TypeId):Claim P E (.call { callee:=.builtin .len,args:=args,argTypes:=ts }):=by
 intro R ty ρ H fz slot k r h
 simp only[evalOp]at h
 split at h
 ·rename_i x T ha hts
  obtain rfl:=Aa1 ha
  obtain rfl:=Aa1 hts
  split at h
  ·rename_i e hu
   split at h
   ·rename_i t xs hx
    refine⟨_,_,h,fun R' k'=>by simp only[evalOp,hu,hx],AW fun w F m ρc o hop hty hi hr => ?_⟩
    have hrx:=hr x
    rw[hx]at hrx
    have hrx:Dat w F (.slice t) xs [ρc x]:=hrx
    obtain⟨a,cap,e1,_⟩:=hrx
    simp only[Aje,Alx]at e1
    exact⟨_,FM hop e1 (B0 hu _ _ _),A1 _ _⟩
   ·rename_i hx
    refine⟨_,_,h,fun R' k'=>by simp only[evalOp,hu,hx],AW fun w F m ρc o hop hty hi hr => ?_⟩
    have hrx:=hr x
    rw[hx]at hrx
    unfold Rep at hrx
    exact⟨_,FM hop hrx (B0 hu _ _ _),A1 _ _⟩
   ·rename_i id hx
    split at h
    ·rename_i T' t xs ho
     refine⟨_,_,h,fun R' k'=>by simp only[evalOp,hu,hx,ho],AW fun w F m ρc o hop hty hi hr => ?_⟩
     have hrx:=hr x
     rw[hx]at hrx
     unfold Rep at hrx
     rw[ho]at hrx
     obtain⟨_,hob⟩:=hi.obj id _ ho
     cases hm:m id with
     |none=>
      rw[hm]at hrx hob
      obtain⟨a,e1⟩:=hrx
      simp only at hob;subst hob
      exact⟨_,FM hop e1 (B0 hu _ _ _),A1 _ _⟩
     |some p=>
      rw[hm]at hrx
      exact⟨_,FM hop hrx (B0 hu _ _ _),A1 _ _⟩
    ·rename_i T' tgt is ho
     refine⟨_,_,h,fun R' k'=>by simp only[evalOp,hu,hx,ho],AW fun w F m ρc o hop hty hi hr => ?_⟩
     have hrx:=hr x
     rw[hx]at hrx
     unfold Rep at hrx
     rw[ho]at hrx
     have hob:=hi.obj id _ ho
     cases hm:m id with
     |none=>
      rw[hm]at hrx hob
      obtain⟨a,e1⟩:=hrx
      have hob:is=[]:=hob
      subst hob
      exact⟨_,FM hop e1 (B0 hu _ _ _),A1 _ _⟩
     |some p=>
      rw[hm]at hrx
      exact⟨_,FM hop hrx (B0 hu _ _ _),A1 _ _⟩
    ·cases h
   ·rename_i id off n hx
    split at h
    ·rename_i hl
     obtain⟨T',t,xs,ho⟩:=Dw hl
     refine⟨_,_,h,fun R' k'=>by simp only[evalOp,hu,hx,hl],AW fun w F m ρc o hop hty hi hr => ?_⟩
     have hrx:=hr x
     rw[hx]at hrx
     unfold Rep at hrx
     rw[ho]at hrx
     obtain⟨_,hrx⟩:=hrx
     cases hm:m id with
     |none=>
      rw[hm]at hrx
      obtain⟨a,e1⟩:=hrx
      exact⟨_,FM hop e1 (B0 hu _ _ _),A1 _ _⟩
     |some p=>
      rw[hm]at hrx
      obtain⟨a,e1,_⟩:=hrx
      exact⟨_,FM hop e1 (B0 hu _ _ _),A1 _ _⟩
    ·cases h
   ·cases h
  ·rename_i kt vt hu
   split at h
   ·rename_i id hx
    split at h
    ·rename_i a b es ho
     refine⟨_,_,h,fun R' k'=>by simp only[evalOp,hu,hx,ho],AW fun w F m ρc o hop hty hi hr => ?_⟩
     have hrx:=hr x
     rw[hx]at hrx
     unfold Rep at hrx
     rw[ho]at hrx
     obtain⟨bb,c,e1,e2⟩:=hrx
     obtain⟨b',c',ms,clock,e3,e4,e5,_⟩:=hi.obj id _ ho
     rw[e1]at e3;cases e3
     refine⟨_,FM hop e2 (u:=.int .i64 (ms.size:Int)) ?_,?_⟩
     ·simp[Builtin.len_,run_underlying hu,goInt,getObj,Sem.run,e4]
     ·have:=ADL e5
      rw[AjZ]at this
      rw[this]
      exact A1 _ _
    ·cases h
   ·cases h
  ·cases h
 ·cases h
theorem Dk{w:World}{F:Nat→Prop}{m:Mp}{H:List Ob}{fz:List Bool}(hi:HI w F m H fz){t:Ty}{v:AV}{ys:List t.den}{fr:List Nat}(h:Eh H (.slice t) v=some (ys,fr)){u:Value}(hr:Rep w F m H v u):
  ∃ a cap,u = .slice a ys.length cap∧ys.length≤cap∧(ys≠[]→a.isSome=true)∧∃ news,rows (Dat w F t) ys news∧∀ ad,a=some ad→∀ j u,news[j]? = some u→w.cell? (ad.add j)=some u:=by
 change Dl H (.slice t) v=some (ys,fr)at h
 unfold Dl at h
 split at h
 ·rename_i t' d
  simp only[AjX,Ajl]at h
  obtain⟨y,h1,rfl,rfl⟩:=h
  obtain⟨e,h2⟩:=Cu h1
  subst e;simp only at h2;subst h2
  have hrx:Dat w F (.slice t) d [u]:=hr
  obtain⟨a,cap,e1,e2,e3⟩:=hrx
  simp only[Aje,Alx]at e1
  refine⟨a,cap,e1,e2,fun hne => ?_,?_⟩
  ·obtain⟨ad,row,rfl,_⟩:=e3 hne;rfl
  ·by_cases hne:d=[]
   ·subst hne
    exact⟨[],rfl,fun ad _ j u hu=>by simp at hu⟩
   ·obtain⟨ad,row,rfl,q1,q2,q3⟩:=e3 hne
    exact⟨row,q2,fun ad' h=>by cases h;exact q3⟩
 ·rename_i t' d
  simp only[AjX,Ajl]at h
  obtain⟨y,h1,rfl,rfl⟩:=h
  obtain⟨e,h2⟩:=Cu h1
  injection e with e
  subst e;simp only at h2;subst h2
  unfold Rep at hr
  obtain⟨a,cap,e1,e2,e3⟩:=hr.1
  simp only[Aje,Alx]at e1
  refine⟨a,cap,e1,e2,fun hne => ?_,?_⟩
  ·obtain⟨ad,row,rfl,_⟩:=e3 hne;rfl
  ·by_cases hne:d=[]
   ·subst hne
    exact⟨[],rfl,fun ad _ j u hu=>by simp at hu⟩
   ·obtain⟨ad,row,rfl,q1,q2,q3⟩:=e3 hne
    exact⟨row,q2,fun ad' h=>by cases h;exact q3⟩
 ·simp only[AjH,Ajl]at h
  obtain⟨rfl,rfl⟩:=h
  unfold Rep at hr
  exact⟨none,0,hr,AjO _,fun h=>absurd rfl h,[],rfl,fun ad _ j u hu=>by simp at hu⟩
 ·rename_i id
  split at h
  ·rename_i T e xs ho
   simp only[AjX,Ajl]at h
   obtain⟨y,h1,rfl,rfl⟩:=h
   obtain⟨e',h2⟩:=Cu h1
   injection e' with e'
   subst e';simp only at h2;subst h2
   unfold Rep at hr
   rw[ho]at hr
   obtain⟨_,hob⟩:=hi.obj id _ ho
   cases hm:m id with
   |none=>
    rw[hm]at hr hob
    obtain⟨a,rfl⟩:=hr
    simp only at hob;subst hob
    exact⟨a,0,rfl,AjO _,fun h=>absurd rfl h,[],rfl,fun ad _ j u hu=>by simp at hu⟩
   |some p=>
    obtain⟨b,cap⟩:=p
    rw[hm]at hr hob
    obtain⟨vs,row,e1,e2,e3,e4,e5,e6⟩:=hob
    refine⟨_,cap,hr,e2,fun _=>rfl,row,e5,fun ad h j u hu => ?_⟩
    cases h
    rw[CC,AkI,DD e1]
    exact Cj e6 hu
  ·cases h
 ·rename_i id off n
  split at h
  ·rename_i T e xs ho
   simp only[AjX,Ajl]at h
   obtain⟨y,h1,rfl,rfl⟩:=h
   obtain⟨e',h2⟩:=Cu h1
   injection e' with e'
   subst e';simp only at h2;subst h2
   unfold Rep at hr
   rw[ho]at hr
   obtain⟨hle,hr⟩:=hr
   have hcl:(DK off n xs).length=n:=by unfold DK;rw[Ajb,Aj3];omega
   obtain⟨_,hob⟩:=hi.obj id _ ho
   cases hm:m id with
   |none=>
    rw[hm]at hr hob
    obtain⟨a,rfl⟩:=hr
    simp only at hob;subst hob
    have hn:n=0:=by have:=hle;simp at this;exact this.2
    subst hn
    have hd:DK off 0 ([]:List e.den)=[]:=by simp[DK]
    exact⟨a,0,by rw[hcl],by rw[hcl];omega,fun h=>absurd hd h,[],by rw[hd];rfl,fun ad _ j u hu=>by simp at hu⟩
   |some p=>
    obtain⟨b,cap⟩:=p
    rw[hm]at hr hob
    obtain⟨vs,row,e1,e2,e3,e4,e5,e6⟩:=hob
    obtain⟨a,rfl,ha⟩:=hr
    have hk:=fun(x:e.den) cs (h:Dat w F e x cs)=>Dat.length e h
    have hrw:=Ds hk n (Hc hk off e5)
    refine⟨a,cap-off,by rw[hcl],by rw[hcl];omega,fun hne => ?_,_,hrw,fun ad h j u hu => ?_⟩
    ·have hn:0<n:=by
      rcases Akb n with h0|h0
      ·exact absurd (Ajg (hcl.trans h0)) hne
      ·exact h0
     rw[ha (by omega)];rfl
    ·have hn:0<n:=by
      rcases Akb n with h0|h0
      ·subst h0;simp at hu
      ·exact h0
     rw[ha (by omega)]at h;cases h
     rw[CC,DD e1]
     rw[Aj7]at hu
     split at hu
     ·rw[AkH]at hu
      exact Cj e6 hu
     ·cases hu
  ·cases h
 ·split at h
  ·simp[cast]at h
  ·cases h
 ·cases h
end
end Go.Pev
end
section
namespace Go.Pev
open Go.RowKit
section
variable {P:Program} {E:Env}
theorem Ap.kill{w:World}{F:Nat→Prop}{m:Mp}{H:List Ob}{fz:List Bool}(hi:HI w F m H fz){j:Nat}(hoj:owned H fz j):Ap w F m H fz w F m (H.set j .dead) fz:=by
 obtain⟨oj,hj,hjf,hjd⟩:=Ex hoj
 have hlt:=Al hj
 have hgj:(H.set j .dead)[j]? = some .dead:=Aw hlt
 have hcomp:CK H (H.set j .dead) m m:=by
  intro i x hix hf
  by_cases hij:i=j
  ·subst hij;exact .inl hgj
  ·rcases CK.refl H m i x hix hf with h|⟨hd,x',h4,h5,_⟩
   ·exact .inl (by rw[Ab hij];exact h)
   ·exact .inr ⟨hd,x',by rw[Ab hij];exact h4,h5,rfl,fun _ _ _=>rfl⟩
 have hown:∀ i:Ix,owned (H.set j .dead) fz i→owned H fz i:=fun i hoi=>by
  by_cases hij:i.id=j
  ·obtain⟨o,ho,_,hd⟩:=C6 hoi
   rw[hij,hgj]at ho;cases ho;exact absurd rfl hd
  ·exact(CZ (Ab hij)).1 hoi
 refine⟨⟨rfl,rfl,rfl,AjO _,fun _ _ _=>rfl,fun _ h=>h,fun _ h=>.inl h,fun i b c h1 h2=>.inl ⟨i,c,hown i h1,h2⟩,hcomp⟩,⟨?_,?_,?_,?_,?_,?_,hi.lt,hi.glo,by simpa using hi.len⟩⟩
 ·intro id x hix
  by_cases hij:id=j
  ·subst hij;rw[hgj]at hix;cases hix;trivial
  ·rw[Ab hij]at hix
   exact ObI.mono (fun _ _=>rfl) (fun _ h=>h) hcomp (fun _ _ _ _ _ _=>rfl) (hi.obj id x hix)
 ·intro i
  by_cases hij:i=j
  ·subst hij;exact B5.plain hgj rfl
  ·exact B5.mono (fun _ _=>rfl) (fun _ h=>h) hcomp (Ab hij) (fun _ _=>rfl) (fun _ _ _ _ _ _ _=>rfl) (hi.row i)
 ·intro i T e t xs ver out hio hf x hx ht b c hm
  by_cases hij:i=j
  ·subst hij;rw[hgj]at hio;cases hio
  ·rw[Ab hij]at hio
   exact hi.rfz i T e t xs ver out hio hf x hx ((CW (by rw[hx];exact Ab hij)).1 ht) b c hm
 ·exact fun i k b c b' c' h1 h2=>hi.sep i k b c b' c' (hown i h1) (hown k h2)
 ·exact fun i b c h1=>hi.off i b c (hown i h1)
 ·intro i T t xs b c hio hf hmi
  by_cases hij:i=j
  ·subst hij;rw[hgj]at hio;cases hio
  ·rw[Ab hij]at hio
   exact hi.froz i T t xs b c hio hf hmi
theorem LX{H:List Ob}{fz:List Bool}{slot j:Nat}{o:Ob}(h:Av H fz slot=true)(hne:slot≠j):Av (H.set j o) fz slot=true:=by
 unfold Av at *
 rw[Ab hne];exact h
theorem B2{w w':World}{ρc:Operand→Value}{o:Oper}{T:TypeId}{s x:Operand}{v n u:Value}(hop:o.op = .call { callee:=.builtin .append,args:=#[s,x],argTypes:=#[T,T] })(e1:ρc s=v)(e2:ρc x=n)
  (hrun:(Builtin.append_ #[T,T] o.type #[v,n]).run P w = .ok u w'):(execOp ρc o).run P w = .ok (.value u) w':=by simp[execOp,hop,resolve,invoke,builtin,e1,e2,hrun]
theorem G6{w:World}{T e ty:TypeId}{i:TypeInfo}(hu:P.underlying T=some (.slice e))(hi:P.info? e=some i)(a:Option Addr){n cap:Nat}(hn:n≤cap)(A:Option Addr)(c:Nat):
  (Builtin.append_ #[T,T] ty #[.slice a n cap,.slice A 0 c]).run P w = .ok (.slice a n cap) w:=by
 have hf:(Builtin.firstCells i.size 0 (.slice A 0 c)).run P w = .ok #[] w:=by
  cases A with
  |none=>simp[Builtin.firstCells]
  |some ad=>simp[Builtin.firstCells,Go.loadCells,loadCellsFrom]
 cases a with
 |none=>simp[Builtin.append_,run_underlying hu,run_sizeOf hi,Builtin.lenOf,hn,hf]
 |some ad=>simp[Builtin.append_,run_underlying hu,run_sizeOf hi,Builtin.lenOf,hn,hf,storeCells]
structure AjD(w:World)(a:Option Addr)(n cap:Nat)(e:TypeId)(sz:Nat)(m:Nat)(old news:List Value)(v:Value)(w':World):Prop where
 os:w'.os=w.os
 tape:w'.tape=w.tape
 output:w'.output=w.output
 size:w.heap.size≤w'.heap.size
 keep:∀ k,k<w.heap.size→(∀ b,a=some ⟨b,0,none⟩→k≠b)→w'.heap[k]? = w.heap[k]?
 res:(m=0∧v = .slice a n cap∧w'=w)∨(∃ g cap' vs,v = .slice (some ⟨g,0,none⟩) (n+m) cap'∧w'.heap[g]? = some (.cells vs e (0,0))∧n+m≤cap'∧cap'≤maxLen∧vs.size=cap'*sz ∧
   vs.toList.take ((n+m)*sz)=old++news∧(w.heap.size≤g∨a=some ⟨g,0,none⟩))
theorem Qd{w:World}{T e ty:TypeId}{i:TypeInfo}{z:Value}(hu:P.underlying T=some (.slice e))(hi:P.info? e=some i)(hz:i.zero=some z)(hzs:z.cells.size=i.size)(hsz:0<i.size)
  {b n cap:Nat} {vs:Array Value} (hb:w.heap[b]? = some (.cells vs e (0,0))) (hn:n≤cap) (hmax:cap≤maxLen) (hvs:vs.size=cap*i.size) {A:Option Addr} {m c:Nat} {news:List Value} (hl:news.length=m*i.size)
  (hA:0<m→A.isSome=true) (hnews:∀ ad,A=some ad→∀ j u,news[j]? = some u→w.cell? (ad.add j)=some u) (h1:∀ u∈news,u.oneCell'=true) (hfit:n+m≤4294967296) (hby:i.bytes≤1024) :
  ∃ v w',(Builtin.append_ #[T,T] ty #[.slice (some ⟨b,0,none⟩) n cap,.slice A m c]).run P w = .ok v w'∧AjD w (some ⟨b,0,none⟩) n cap e i.size m (vs.toList.take (n*i.size)) news v w':=by
 have hbytes:(n+m)*i.bytes≤140737488355328:=Aka (Ali hfit hby) (by omega)
 have hown:w.ownsRow 0 e i.size (.slice (some ⟨b,0,none⟩) n cap) n (vs.toList.take (n*i.size)):=by
  refine⟨?_,.inr ⟨b,cap,vs,rfl,AmN _,hb,hn,hmax,hvs,rfl⟩⟩
  rw[Ajb,AjZ,hvs]
  exact AkT (AkD _ hn)
 cases A with
 |none=>
  have hm:m=0:=by
   rcases Akb m with h0|h0
   ·exact h0
   ·exact absurd (hA h0) (by simp)
  subst hm
  exact⟨_,w,G6 hu hi _ hn none c,rfl,rfl,rfl,AjO _,fun _ _ _=>rfl,.inl ⟨rfl,rfl,rfl⟩⟩
 |some ad=>
  obtain⟨v',w',hrun,⟨hl',hres⟩,hg,_,hat⟩:=run_append_own_at (P:=P) w 0 T ty e i z i.size i.bytes hu hi hz rfl rfl hzs hsz _ n _ hown ad m c news hl (hnews ad rfl) h1 (by simp only[maxLen];omega) hbytes (AmN _)
  refine⟨v',w',hrun,hg.os,hg.tape,hg.output,hg.size,fun k hk hne=>hg.block k hk (by simp[Value.ownBlock];exact hne b rfl),.inr ?_⟩
  rcases hres with⟨rfl,h0⟩|⟨g,cap',cur,rfl,_,h2,h3,h4,h5,h6⟩
  ·rcases hat with h|h<;>simp[Value.ownBlock]at h
  ·refine⟨g,cap',cur,rfl,h2,h3,h4,h5,h6,?_⟩
   rcases hat with h|h
   ·simp only[Value.ownBlock,AjH]at h;subst h;exact .inr rfl
   ·simp only[Value.ownBlock,AjH]at h;subst h;exact .inl (AjO _)
theorem JR{w:World}{T e ty:TypeId}{i:TypeInfo}{z:Value}(hu:P.underlying T=some (.slice e))(hi:P.info? e=some i)(hz:i.zero=some z)(hzs:z.cells.size=i.size)
  (a:Option Addr) {A:Option Addr} {m c:Nat} {news:List Value} (hl:news.length=m*i.size)
  (hA:0<m→A.isSome=true) (hnews:∀ ad,A=some ad→∀ j u,news[j]? = some u→w.cell? (ad.add j)=some u) (hfit:m≤4294967296) (hby:i.bytes≤1024) :
  ∃ v w',(Builtin.append_ #[T,T] ty #[.slice a 0 0,.slice A m c]).run P w = .ok v w'∧w'.os=w.os∧w'.tape=w.tape∧w'.output=w.output∧w.heap.size≤w'.heap.size∧(∀ k,k<w.heap.size→w'.heap[k]? = w.heap[k]?) ∧
   ((m=0∧v = .slice a 0 0)∨(∃ cap' vs,v = .slice (some ⟨w.heap.size,0,none⟩) m cap'∧w'.heap[w.heap.size]? = some (.cells vs e (0,0))∧m≤cap'∧cap'≤maxLen∧vs.size=cap'*i.size∧vs.toList.take (m*i.size)=news)):=by
 rcases Akb m with h0|h0
 ·subst h0
  exact⟨_,w,G6 hu hi a (AjO _) A c,rfl,rfl,rfl,AjO _,fun _ _=>rfl,.inl ⟨rfl,rfl⟩⟩
 ·obtain⟨ad,rfl⟩:=Aki.1 (hA h0)
  have hmb:m*i.bytes≤281474976710656:=Aka (Ali hfit hby) (by omega)
  have hge:=grownCap_ge w m 0 e
  have hle:=grownCap_le_maxLen w m 0 e (by simp only[maxLen];omega)
  have fin:∀ vs:Array Value,vs.toList=news++(Builtin.zeroCells z.cells (grownCap w m 0 e-m)).toList→vs.size=grownCap w m 0 e*i.size∧vs.toList.take (m*i.size)=news:=by
   intro vs hvs
   refine⟨?_,?_⟩
   ·rw[← AjZ,hvs,AjS,hl,AjZ,size_zeroCells,hzs,← AkJ]
    congr 1;omega
   ·rw[hvs,← hl];exact Alu
  cases a with
  |none=>
   have hr:=run_append_nil (P:=P) w T ty e i z hu hi hz ad m c news hl (hnews ad rfl) h0 (by omega) hmb
   obtain⟨f1,f2⟩:=fin (news.toArray++Builtin.zeroCells z.cells (grownCap w m 0 e-m)) (by simp)
   exact⟨_,_,hr,rfl,rfl,rfl,by simp,fun k hk=>heap_alloc_old w.drew _ k hk,.inr ⟨_,_,rfl,heap_alloc_new w.drew _,hge,hle,f1,f2⟩⟩
  |some b=>
   have hr:=run_append_grow (P:=P) w T ty e i z hu hi hz b 0 0 [] (by simp) (fun j v h=>by simp at h) ad m c news hl (hnews ad rfl) (by omega) (by omega) (by
    rw[AkI]
    have:Builtin.nextslicecap m 0=m:=nextslicecap_zero h0
    rw[this];exact hmb)
   simp only[AkI]at hr
   obtain⟨f1,f2⟩:=fin (([]:List Value).toArray++news.toArray++Builtin.zeroCells z.cells (grownCap w m 0 e-m)) (by simp)
   exact⟨_,_,hr,rfl,rfl,rfl,by simp,fun k hk=>heap_alloc_old w.drew _ k hk,.inr ⟨_,_,rfl,heap_alloc_new w.drew _,hge,hle,f1,f2⟩⟩
end
end Go.Pev
end
section
namespace Go.Pev
open Go.RowKit
section
variable {P:Program} {E:Env}
theorem AKr{H:List Ob}{fz:List Bool}{slot id:Nat}{T:TypeId}{t:Ty}{xs:List t.den}(hf:Av H fz slot=true)(ho:H[id]? = some (.arr T t xs)):slot≠id:=by
 rintro rfl
 rw[(BN hf).1]at ho;cases ho
theorem Fa{w:World}{F:Nat→Prop}{m:Mp}{H:List Ob}{fz:List Bool}(hi:HI w F m H fz){slot:Nat}(hf:Av H fz slot=true){T e ty:TypeId}{t:Ty}{i:TypeInfo}{z:Value}(hu:P.underlying T=some (.slice e))
  (hi0:P.info? e=some i) (hz:i.zero=some z) (hzs:z.cells.size=i.size) (hsz:i.size=t.size) (hpos:0<t.size) (hby:i.bytes≤1024) {ys:List t.den} (hfit:ys.length≤4294967296) (a:Option Addr)
  {A:Option Addr} {c:Nat} {news:List Value} (hA:ys≠[]→A.isSome=true) (hrows:rows (Dat w F t) ys news) (hnews:∀ ad,A=some ad→∀ j u,news[j]? = some u→w.cell? (ad.add j)=some u) :
  ∃ v w' m',(Builtin.append_ #[T,T] ty #[.slice a 0 0,.slice A ys.length c]).run P w = .ok v w'∧Ap w F m H fz w' F m' (H.set slot (.arr e t ys)) fz∧Rep w' F m' (H.set slot (.arr e t ys)) (.own slot) v:=by
 have hk:=fun(x:t.den) cs (h:Dat w F t x cs)=>Dat.length t h
 have hl:=A5 hk hrows
 obtain⟨v,w',hrun,h1,h2,h3,h4,h5,h6⟩:=JR (P:=P) (w:=w) (ty:=ty) hu hi0 hz hzs a (A:=A) (m:=ys.length) (c:=c) (news:=news) (by rw[hl,hsz]) (fun h=>hA (by rintro rfl;simp at h)) hnews hfit hby
 rcases h6 with⟨h0,rfl⟩|⟨cap',vs,rfl,q1,q2,q3,q4,q5⟩
 ·have hy:ys=[]:=Ajg h0
  subst hy
  have hgw:=Ap.grow hi h1 h2 h3 h4 h5
  obtain⟨m',hg,hrep⟩:=Dd hgw.2 hf e hpos a
  exact⟨_,w',m',hrun,hgw.trans hg,hrep⟩
 ·obtain⟨m',hg,hrep⟩:=FJ hi hf hpos q1 h1 h2 h3 h4 h5 q2 q3 (by rw[q4,hsz]) hrows (by rw[hl,← hsz];exact q5)
  exact⟨_,w',m',hrun,hg,hrep⟩
theorem AQX{w:World}{F:Nat→Prop}{m:Mp}{H:List Ob}{fz:List Bool}(hi:HI w F m H fz){slot:Nat}(hf:Av H fz slot=true){T e ty:TypeId}{t:Ty}{i:TypeInfo}{z:Value}(hu:P.underlying T=some (.slice e))
  (hi0:P.info? e=some i) (hz:i.zero=some z) (hzs:z.cells.size=i.size) (hsz:i.size=t.size) (hpos:0<t.size) (hby:i.bytes≤1024) {xs ys:List t.den} (hfit:xs.length+ys.length≤4294967296) (hne:ys≠[])
  {s:Value} (hs:Rep w F m H (.clip t xs) s) {A:Option Addr} {c:Nat} {news:List Value} (hA:ys≠[]→A.isSome=true) (hrows:rows (Dat w F t) ys news) (hnews:∀ ad,A=some ad→∀ j u,news[j]? = some u→w.cell? (ad.add j)=some u) :
  ∃ v w' m',(Builtin.append_ #[T,T] ty #[s,.slice A ys.length c]).run P w = .ok v w'∧Ap w F m H fz w' F m' (H.set slot (.arr e t (xs++ys))) fz∧Rep w' F m' (H.set slot (.arr e t (xs++ys))) (.own slot) v:=by
 have hk:=fun(x:t.den) cs (h:Dat w F t x cs)=>Dat.length t h
 unfold Rep at hs
 obtain⟨⟨a0,cap0,q1,_,q3⟩,a,rfl⟩:=hs
 simp only[Aje,Value.slice.injEq,Alx]at q1
 obtain⟨rfl, -, -⟩:=q1
 by_cases hx:xs=[]
 ·subst hx
  exact Fa hi hf hu hi0 hz hzs hsz hpos hby (by simpa using hfit) a hA hrows hnews
 obtain⟨ad,row,rfl,hF,hr0,hc0⟩:=q3 hx
 obtain⟨bd,rfl⟩:=Aki.1 (hA hne)
 have hl:=A5 hk hrows
 have hrl:=A5 hk hr0
 have hy0:0<ys.length:=List.length_pos_iff.2 hne
 have hbytes:(xs.length+ys.length)*i.bytes≤140737488355328:=Aka (Ali hfit hby) (by omega)
 have hr:=run_append_grow (P:=P) w T ty e i z hu hi0 hz ad xs.length xs.length row (by rw[hrl,hsz]) hc0 bd ys.length c news (by rw[hl,hsz]) (hnews bd rfl) (by omega) (by omega) (growslice_fits (by omega) hbytes)
 have hge:=grownCap_ge w (xs.length+ys.length) xs.length e
 have hle:=grownCap_le_maxLen w (xs.length+ys.length) xs.length e (by simp only[maxLen];omega)
 have hlen:(row++news).length=(xs.length+ys.length)*t.size:=by rw[AjS,hrl,hl,AkJ]
 obtain⟨m',hg,hrep⟩:=FJ hi hf (w':=w.drew.alloc (.cells (row.toArray++news.toArray++Builtin.zeroCells z.cells (grownCap w (xs.length+ys.length) xs.length e-(xs.length+ys.length))) e)) hpos (xs:=xs++ys) (heap_alloc_new w.drew _) rfl rfl rfl (by simp) (fun b hb=>heap_alloc_old w.drew _ b hb)
  (cap:=grownCap w (xs.length+ys.length) xs.length e) (by simpa using hge) hle (by
   rw[Array.size_append,Array.size_append,Ako,Ako,size_zeroCells,hzs,hsz,hrl,hl,← AkJ,← AkJ];congr 1;omega) (H3 hr0 hrows) (by
   rw[AlI,AlI];exact Alu)
 rw[AjS]at hrep
 exact⟨_,_,m',hr,hg,hrep⟩
theorem X1{w:World}{F:Nat→Prop}{m:Mp}{H:List Ob}{fz:List Bool}(hi:HI w F m H fz){slot:Nat}(hf:Av H fz slot=true){T e ty:TypeId}{t:Ty}{i:TypeInfo}{z:Value}(hu:P.underlying T=some (.slice e))
  (hi0:P.info? e=some i) (hz:i.zero=some z) (hzs:z.cells.size=i.size) (hsz:i.size=t.size) (hpos:0<t.size) (hby:i.bytes≤1024) {id:Nat} {xs:List t.den} (ho:H[id]? = some (.arr e t xs)) (hun:Aj fz id=true)
  {b cap:Nat} (hm:m id=some (b,cap)) {n:Nat} (hn:n≤xs.length) {ys:List t.den} (hfit:n+ys.length≤4294967296)
  {A:Option Addr} {c:Nat} {news:List Value} (hA:ys≠[]→A.isSome=true) (hrows:rows (Dat w F t) ys news) (hnews:∀ ad,A=some ad→∀ j u,news[j]? = some u→w.cell? (ad.add j)=some u) :
  ∃ v w' m',(Builtin.append_ #[T,T] ty #[.slice (some ⟨b,0,none⟩) n cap,.slice A ys.length c]).run P w = .ok v w' ∧
   Ap w F m H fz w' F m' ((H.set id .dead).set slot (.arr e t (xs.take n++ys))) fz∧Rep w' F m' ((H.set id .dead).set slot (.arr e t (xs.take n++ys))) (.own slot) v:=by
 have hk:=fun(x:t.den) cs (h:Dat w F t x cs)=>Dat.length t h
 have hl:=A5 hk hrows
 obtain⟨_,hob⟩:=hi.obj id _ ho
 rw[hm]at hob
 obtain⟨vs,row,e1,e2,e3,e4,e5,e6⟩:=hob
 have hrl:=A5 hk e5
 have hold:vs.toList.take (n*i.size)=row.take (n*t.size):=by
  rw[← e6,AlW,hsz,AkT (by rw[hrl];exact AkD _ hn)]
 obtain⟨v,w',hrun,hgr⟩:=Qd (P:=P) (w:=w) (ty:=ty) hu hi0 hz hzs (by omega) e1 (n:=n) (by omega) e3 (by rw[e4,hsz]) (A:=A) (m:=ys.length) (c:=c) (news:=news) (by rw[hl,hsz]) (fun h=>hA (by rintro rfl;simp at h)) hnews
  (fun u hu=>RP (fun x cs (h:Dat w F t x cs)=>Dat.HP t h) hrows u hu) hfit hby
 rw[hold]at hgr
 have hlen:(xs.take n++ys).length=n+ys.length:=by rw[AjS,Ajb];omega
 have hr0:=H3 (Ds hk n e5) hrows
 have hcell:∀ k,F k→w'.heap[k]? = w.heap[k]? := fun k ha=>by
  have h1:k≠b:=by rintro h;exact hi.off id b cap (CG ho hun) hm (h▸ha)
  exact hgr.keep _ (hi.lt _ ha) (fun b' h=>by cases h;exact h1)
 have hlts:=Al (BN hf).1
 have hgs:((H.set id .dead).set slot (.arr e t (xs.take n++ys)))[slot]? = some (.arr e t (xs.take n++ys)):=Aw (by simpa using hlts)
 have main:∀ (g cap':Nat) (vs':Array Value),(w.heap.size≤g∨g=b)→w'.heap[g]? = some (.cells vs' e (0,0))→n+ys.length≤cap'→cap'≤maxLen→vs'.size=cap'*t.size→vs'.toList.take ((n+ys.length)*t.size)=row.take (n*t.size)++news →
   ∃ m',Ap w F m H fz w' F m' ((H.set id .dead).set slot (.arr e t (xs.take n++ys))) fz∧Rep w' F m' ((H.set id .dead).set slot (.arr e t (xs.take n++ys))) (.own slot) (.slice (some ⟨g,0,none⟩) (n+ys.length) cap'):=by
  intro g cap' vs' hg q1 q2 q3 q4 q5
  have:=Ap.move (w':=w') hi (CG ho hun) hm hf (ob:=.arr e t (xs.take n++ys)) trivial (b':=g) (c':=cap') hg.symm hgr.os hgr.tape hgr.output hgr.size (fun k hk hne=>hgr.keep k hk (fun b' h=>by cases h;exact hne))
   (fun _=>⟨hpos,vs',row.take (n*t.size)++news,q1,by rw[hlen];exact q2,q3,q4,BM (fun x _ cs hx=>hx.mono hcell (fun _ h=>h) t) hr0,by
    have:(row.take (n*t.size)++news).length=(n+ys.length)*t.size:=by rw[A5 hk hr0,hlen]
    rw[this];exact q5⟩)
  refine⟨_,this,?_⟩
  unfold Rep
  rw[hgs,Aq,← hlen]
  rfl
 rcases hgr.res with⟨h0,rfl,rfl⟩|⟨g,cap',vs',rfl,q1,q2,q3,q4,q5,q6⟩
 ·have hy:ys=[]:=Ajg h0
  subst hy
  obtain⟨m',hg,hrep⟩:=main b cap vs (.inr rfl) e1 (by simp;omega) e3 e4 (by
   cases hrows
   rw[AkS,Aji,Akc]
   rw[hsz]at hold
   exact hold)
  exact⟨_,_,m',hrun,hg,by simpa using hrep⟩
 ·obtain⟨m',hg,hrep⟩:=main g cap' vs' (by rcases q6 with h|h;exact .inl h;cases h;exact .inr rfl) q1 q2 q3 (by rw[q4,hsz]) (by rw[← hsz]at *;exact q5)
  exact⟨_,_,m',hrun,hg,hrep⟩
theorem AKw{w w':World}{ρc:Operand→Value}{o:Oper}{T T':TypeId}{s x:Operand}{v n u:Value}(hop:o.op = .call { callee:=.builtin .append,args:=#[s,x],argTypes:=#[T,T'] })(e1:ρc s=v)(e2:ρc x=n)
  (hrun:(Builtin.append_ #[T,T'] o.type #[v,n]).run P w = .ok u w'):(execOp ρc o).run P w = .ok (.value u) w':=by simp[execOp,hop,resolve,invoke,builtin,e1,e2,hrun]
theorem AQV{w:World}{F:Nat→Prop}{m:Mp}{H:List Ob}{fz:List Bool}(hi:HI w F m H fz){slot:Nat}(hf:Av H fz slot=true){T T' e ty:TypeId}{t:Ty}{i:TypeInfo}{z:Value}(hu:P.underlying T=some (.slice e))
  (hi0:P.info? e=some i) (hz:i.zero=some z) (hok:Bw (zeroCells t) z.cells.toList=true) (hsz:i.size=t.size) (hpos:0<t.size) (hby:i.bytes≤1024) {kt kx:IntKind} (hk:P.underlying T'=some (.int kt)) {n:Nat} (hfit:n≤4294967296) :
  ∃ v w' m',(Builtin.append_ #[T,T'] ty #[.slice none 0 0,.int kx n]).run P w = .ok v w'∧Ap w F m H fz w' F m' (H.set slot (.arr e t (List.replicate n t.zero))) fz∧Rep w' F m' (H.set slot (.arr e t (List.replicate n t.zero))) (.own slot) v:=by
 have hzd:=Bb (w:=w) (F:=F) t _ hok
 have hzl:z.cells.size=t.size:=by rw[← AjZ];exact Dat.length t hzd
 have hw:IntKind.i64.wrap (n:Int)=n:=IntWalk.i64_in _ (by omega)
 have hbb:(n:Int)*(i.bytes:Int)≤281474976710656:=by
  have:n*i.bytes≤4294967296*1024:=Ali hfit hby
  have h2:((n*i.bytes:Nat):Int)≤281474976710656:=by omega
  rwa [Int.natCast_mul]at h2
 rcases Akb n with h0|h0
 ·subst h0
  obtain⟨m',hg,hrep⟩:=Dd (w:=w) hi hf e hpos none
  refine⟨.slice none 0 0,w,m',?_,by simpa using hg,by simpa using hrep⟩
  have hw0:IntKind.i64.wrap 0=0:=hw
  simp[Builtin.append_,run_underlying hu,run_underlying hk,sizeOf,typeInfo,hi0,asInt,asIntOf,hw0]
 ·have hge:=grownCap_ge w n 0 e
  have hle:=grownCap_le_maxLen w n 0 e (by simp only[maxLen];omega)
  have hrows:=E8 (w:=w) (F:=F) hzd n
  have hrl:=A5 (fun x cs (h:Dat w F t x cs)=>Dat.length t h) hrows
  rw[AkV]at hrl
  have hcells:∀ k,(Builtin.zeroCells z.cells k).toList=(List.replicate k z.cells.toList).flatten:=Cp z.cells
  have hrun:(Builtin.append_ #[T,T'] ty #[.slice none 0 0,.int kx n]).run P w = .ok (.slice (some ⟨w.heap.size,0,none⟩) n (grownCap w n 0 e)) (w.drew.alloc (.cells (Builtin.zeroCells z.cells n++Builtin.zeroCells z.cells (grownCap w n 0 e-n)) e)):=by
   have hn:n≠0:=by omega
   have hn2:¬ ((n:Int)<0):=by omega
   have hn3:¬ (281474976710656<(n:Int)*(i.bytes:Int)):=by omega
   have h63':¬ (9223372036854775807<(n:Int)):=by omega
   have h48':¬ (281474976710656<Builtin.nextslicecap n 0*i.bytes):=by
    rw[nextslicecap_zero h0]
    have:n*i.bytes≤4294967296*1024:=Ali hfit hby
    omega
   have hsz0:¬ (i.size=0):=by omega
   simp[Builtin.append_,run_underlying hu,run_underlying hk,sizeOf,typeInfo,zeroValue,hi0,hz,asInt,asIntOf,hw,hn,hn2,hn3,h63',h48',Question.forced,run_firstCells_none,newRow,grownCap]
   intro h
   have:n*i.size≠0:=Nat.mul_ne_zero hn hsz0
   omega
  obtain⟨m',hg,hrep⟩:=FJ hi hf (w':=w.drew.alloc (.cells (Builtin.zeroCells z.cells n++Builtin.zeroCells z.cells (grownCap w n 0 e-n)) e)) hpos (xs:=List.replicate n t.zero) (heap_alloc_new w.drew _) rfl rfl rfl (by simp) (fun b hb=>heap_alloc_old w.drew _ b hb)
   (cap:=grownCap w n 0 e) (by simpa using hge) hle (by
    rw[Array.size_append,size_zeroCells,size_zeroCells,hzl,← AkJ];congr 1;omega) hrows (by
    rw[hrl,AlI,hcells,← hrl,Alu])
  rw[AkV]at hrep
  exact⟨_,_,m',hrun,hg,hrep⟩
end
end Go.Pev
end
section
namespace Go.Pev
open Go.RowKit
section
variable {P:Program}
theorem PF{H:List Ob}{fz:List Bool}{ids:List Nat}{i:Ix}(h:owned H (Ak ids fz) i):owned H fz i:=by
 cases i with
 |r i k=>
  simp only[owned]at *
  split at h
  ·rw[Ax]at h
   simp only[AlQ]at h
   exact⟨h.1,h.2.1⟩
  ·exact h.elim
 |o i=>
  simp only[owned,Bq]at *
  cases ho:H[i]? with
  |none=>rw[ho]at h;exact h.elim
  |some o=>
   rw[ho]at h
   cases o with
   |free=>exact h.elim
   |dead=>exact h.elim
   |box cs=>trivial
   |map k v es=>trivial
   |prs T t is=>trivial
   |rows T e t xs ver out=>
    simp only at h ⊢
    rw[Ax]at h
    simp only[AlQ]at h
    exact h.1
   |arr T t xs=>
    simp only at h ⊢
    rw[Ax]at h
    simp only[AlQ]at h
    exact h.1
theorem AHH{w w':World}{F:Nat→Prop}{m:Mp}{H:List Ob}{fz:List Bool}(hi:HI w F m H fz){id:Nat}{e:TypeId}{t:Ty}{xs:List t.den}(ho:H[id]? = some (.arr e t xs))(hun:Aj fz id=true)
  (os:w'.os=w.os) (tape:w'.tape=w.tape) (output:w'.output=w.output) (size:w.heap.size≤w'.heap.size) (G:Nat→Prop)
  (hG:∀ k,G k→k<w'.heap.size∧((∃ c,m id=some (k,c))∨w.heap.size≤k)) (hb:∀ b c,m id=some (b,c)→G b)
  (hkeep:∀ k,k<w.heap.size→(∀ c,m id≠some (k,c))→w'.heap[k]? = w.heap[k]?)
  (hob:ObI w' (fun k=>F k∨G k) m H (.arr e t xs) (m id)):Ap w F m H fz w' (fun k=>F k∨G k) m H (Ak [id] fz):=by
 have hid:=CG ho hun
 have hown:∀ i:Ix,owned H (Ak [id] fz) i→owned H fz i∧i≠.o id:=by
  intro i h
  refine⟨PF h,?_⟩
  rintro rfl
  simp only[owned,Bq]at h
  rw[ho]at h
  simp only at h
  rw[Ax]at h
  have hl:id<fz.length:=by rw[← hi.len];exact Al ho
  simp[hl]at h
 have hcell:∀ k,F k→w'.heap[k]? = w.heap[k]? := fun k ha=>hkeep _ (hi.lt _ ha) (fun c hc=>hi.off id _ c hid hc ha)
 refine⟨⟨os,tape,output,size,fun b hb' hne=>hkeep b hb' (fun c hc=>hne id c hid hc),fun _ h=>.inl h,?_,fun i b c h1 h2=>.inl ⟨i,c,(hown i h1).1,h2⟩,CK.refl H m⟩,⟨?_,?_,?_,?_,?_,?_,?_,hi.glo.mono hcell (fun _ h=>.inl h),by rw[C1];exact hi.len⟩⟩
 ·rintro b (h|h)
  ·exact .inl h
  ·rcases(hG b h).2 with⟨c,hc⟩|h
   ·exact .inr (.inl ⟨id,c,hid,hc⟩)
   ·exact .inr (.inr h)
 ·intro j o hj
  by_cases hji:j=id
  ·subst hji;rw[ho]at hj;cases hj;exact hob
  ·exact ObI.mono hcell (fun _ h=>.inl h) (CK.refl H m) (fun hf hd b c hl hlt=>hkeep b hlt (fun c' hc'=>hi.ne hid hc' hj hf hd hl hji rfl)) (hi.obj j o hj)
 ·intro i
  by_cases hne:i=id
  ·subst hne;exact B5.plain ho rfl
  ·exact B5.mono hcell (fun _ h=>.inl h) (CK.refl H m) rfl (fun _ _=>rfl) (fun x hx hox b c hl hlt=>hkeep b hlt (fun c' hc'=>hi.neX hid hc' hox hl (by rintro rfl;exact hne hx.symm) rfl)) (hi.row i)
 ·intro i T' e' t' xs' ver out hio hf x hx ht b c hm
  have hne:i≠id:=by rintro rfl;rw[ho]at hio;cases hio
  rw[Ax]at hf
  simp only[AkW,AjK,AjJ,Ajk]at hf
  rcases hf with hf|⟨hf,_⟩
  ·exact .inl (hi.rfz i T' e' t' xs' ver out hio hf x hx ht b c hm)
  ·exact absurd hf hne
 ·exact fun i j b c b' c' h1 h2=>hi.sep i j b c b' c' (hown i h1).1 (hown j h2).1
 ·rintro i b c h1 h2 (hF|hg)
  ·exact hi.off i b c (hown i h1).1 h2 hF
  ·rcases(hG b hg).2 with⟨c',hc'⟩|h
   ·exact hi.sep i id b c b c' (hown i h1).1 hid (hown i h1).2 h2 hc' rfl
   ·have:=hi.IH (hown i h1).1 h2;omega
 ·intro i T t' xs' b c hio hf hmi
  by_cases hii:i=id
  ·subst hii;exact .inr (hb b c hmi)
  ·refine .inl (hi.froz i T t' xs' b c hio ?_ hmi)
   rw[Ax]at hf
   simpa [hii]using hf
 ·rintro b (h|h)
  ·exact Akg (hi.lt b h) size
  ·exact(hG b h).1
theorem Aej{w':World}{F':Nat→Prop}{m:Mp}{H:List Ob}{g cap:Nat}{vs:Array Value}{e:TypeId}{t:Ty}{zs:List t.den}{row:List Value}(hg:w'.heap[g]? = some (.cells vs e (0,0)))(ht:vs.toList.take row.length=row)
  (hrows:rows (Dat w' F' t) zs row) (hle:zs.length≤cap) (hF:F' g) {n:Nat} (hn:n=zs.length):Rep w' F' m H (.data (.slice t) zs) (.slice (some ⟨g,0,none⟩) n cap):=by
 subst hn
 unfold Rep
 show Dat w' F' (.slice t) zs [_]
 refine⟨some ⟨g,0,none⟩,cap,rfl,hle,fun _=>⟨⟨g,0,none⟩,row,rfl,hF,hrows,fun j u hj => ?_⟩⟩
 rw[Addr.add_lit,AkI]
 have hj':vs.toList[j]? = some u:=by
  rw[← ht,Aj7]at hj
  split at hj
  ·exact hj
  ·cases hj
 rw[Alc]at hj'
 simp[World.cell?,hg,hj']
theorem AQW{w:World}{F:Nat→Prop}{m:Mp}{H:List Ob}{fz:List Bool}(hi:HI w F m H fz){T e ty:TypeId}{t:Ty}{i:TypeInfo}{z:Value}(hu:P.underlying T=some (.slice e))
  (hi0:P.info? e=some i) (hz:i.zero=some z) (hzs:z.cells.size=i.size) (hsz:i.size=t.size) (hpos:0<t.size) (hby:i.bytes≤1024) {id:Nat} {xs:List t.den} (ho:H[id]? = some (.arr e t xs)) (hun:Aj fz id=true)
  {ys:List t.den} (hfit:xs.length+ys.length≤4294967296)
  {A:Option Addr} {c:Nat} {news:List Value} (hA:ys≠[]→A.isSome=true) (hrows:rows (Dat w F t) ys news) (hnews:∀ ad,A=some ad→∀ j u,news[j]? = some u→w.cell? (ad.add j)=some u)
  {s:Value} (hs:Rep w F m H (.own id) s) :
  ∃ v w' F',(Builtin.append_ #[T,T] ty #[s,.slice A ys.length c]).run P w = .ok v w'∧Ap w F m H fz w' F' m H (Ak [id] fz)∧Rep w' F' m H (.data (.slice t) (xs++ys)) v:=by
 have hk:=fun(x:t.den) cs (h:Dat w F t x cs)=>Dat.length t h
 have hl:=A5 hk hrows
 have hid:=CG ho hun
 unfold Rep at hs
 rw[ho]at hs
 have hob:=hi.obj id _ ho
 obtain⟨_,hob'⟩:=hob
 cases hm:m id with
 |none=>
  rw[hm]at hs hob'
  obtain⟨a,rfl⟩:=hs
  simp only at hob'
  subst hob'
  obtain⟨v,w',hrun,h1,h2,h3,h4,h5,h6⟩:=JR (P:=P) (w:=w) (ty:=ty) hu hi0 hz hzs a (A:=A) (m:=ys.length) (c:=c) (news:=news) (by rw[hl,hsz]) (fun h=>hA (by rintro rfl;simp at h)) hnews (by simpa using hfit) hby
  have hg:=AHH (w':=w') hi ho hun h1 h2 h3 h4 (fun k=>k=w.heap.size∧k<w'.heap.size) (fun k hk=>⟨hk.2,.inr (Ala hk.1.symm)⟩) (fun b c h=>by rw[hm]at h;cases h) (fun k hk _=>h5 k hk) (by
   rw[hm];exact⟨hpos,rfl⟩)
  refine⟨v,w',_,hrun,hg,?_⟩
  rw[Ajs]
  rcases h6 with⟨h0,rfl⟩|⟨cap',vs,rfl,q1,q2,q3,q4,q5⟩
  ·have hy:ys=[]:=Ajg h0
   subst hy
   unfold Rep
   exact⟨a,0,rfl,AjO _,fun h=>absurd rfl h⟩
  ·have hcell:∀ k,F k→w'.heap[k]? = w.heap[k]? := fun k ha=>h5 _ (hi.lt _ ha)
   exact Aej q1 (by rw[hl,← hsz];exact q5) (BM (fun x _ cs hx=>hx.mono hcell (fun _ h=>.inl h) t) hrows) q2 (.inr ⟨rfl,Ay q1⟩) rfl
 |some p=>
  obtain⟨b,cap⟩:=p
  rw[hm]at hs hob'
  simp only[A8]at hs
  obtain⟨vs,row,e1,e2,e3,e4,e5,e6⟩:=hob'
  subst hs
  have hrl:=A5 hk e5
  have hblt:b<w.heap.size:=Ay e1
  have hG:∀ (w':World),w.heap.size≤w'.heap.size→∀ k,(k=b∨(k=w.heap.size∧k<w'.heap.size))→k<w'.heap.size∧((∃ c,m id=some (k,c))∨w.heap.size≤k):=by
   rintro w' h k (rfl|⟨h1,h2⟩)
   ·exact⟨Akg hblt h,.inl ⟨cap,hm⟩⟩
   ·exact⟨h2,.inr (Ala h1.symm)⟩
  have main:∀ (w':World) (vs0:Array Value),w'.os=w.os→w'.tape=w.tape→w'.output=w.output→w.heap.size≤w'.heap.size→(∀ k,k<w.heap.size→k≠b→w'.heap[k]? = w.heap[k]?)→w'.heap[b]? = some (.cells vs0 e (0,0))→vs0.size=cap*t.size→vs0.toList.take row.length=row →
    (∀ k,F k→w'.heap[k]? = w.heap[k]?)∧Ap w F m H fz w' (fun k=>F k∨(k=b∨(k=w.heap.size∧k<w'.heap.size))) m H (Ak [id] fz):=by
   intro w' vs0 h1 h2 h3 h4 h5 h6 h7 h8
   have hcell:∀ k,F k→w'.heap[k]? = w.heap[k]? := fun k ha=>h5 _ (hi.lt _ ha) (by rintro h;exact hi.off id b cap hid hm (h▸ha))
   refine⟨hcell,AHH hi ho hun h1 h2 h3 h4 _ (hG w' h4) (fun b' c' h=>by rw[hm]at h;cases h;exact .inl rfl) (fun k hk hne=>h5 k hk (by rintro rfl;exact hne cap hm)) ?_⟩
   rw[hm]
   exact⟨hpos,vs0,row,h6,e2,e3,h7,BM (fun x _ cs hx=>hx.mono hcell (fun _ h=>.inl h) t) e5,h8⟩
  have hrr:=H3 e5 hrows
  have hlen:(row++news).length=(xs.length+ys.length)*t.size:=by rw[AjS,hrl,hl,AkJ]
  have fin:∀ (w':World) (g cap':Nat) (vs':Array Value),(∀ k,F k→w'.heap[k]? = w.heap[k]?)→(g=b∨(g=w.heap.size∧g<w'.heap.size))→w'.heap[g]? = some (.cells vs' e (0,0))→xs.length+ys.length≤cap'→vs'.toList.take (row++news).length=row++news →
    Rep w' (fun k=>F k∨(k=b∨(k=w.heap.size∧k<w'.heap.size))) m H (.data (.slice t) (xs++ys)) (.slice (some ⟨g,0,none⟩) (xs.length+ys.length) cap'):=by
   intro w' g cap' vs' hcell hg hgv hle htk
   exact Aej hgv htk (BM (fun x _ cs hx=>hx.mono hcell (fun _ h=>.inl h) t) hrr) (by simpa using hle) (.inr hg) (by simp)
  cases A with
  |none=>
   have hy:ys=[]:=by
    cases ys with
    |nil=>rfl
    |cons a b=>exact absurd (hA (by simp)) (by simp)
   subst hy
   obtain⟨hc,hgo⟩:=main w vs rfl rfl rfl (AjO _) (fun _ _ _=>rfl) e1 e4 e6
   have hn0:news=[]:=Ajg (by rw[hl];simp)
   subst hn0
   exact⟨_,w,_,G6 hu hi0 _ e2 none c,hgo,fin w b cap vs hc (.inl rfl) e1 (by simpa using e2) (by simpa using e6)⟩
  |some ad=>
   have hone:∀ u∈news,u.oneCell'=true:=fun u hu=>RP (fun x cs (h:Dat w F t x cs)=>Dat.HP t h) hrows u hu
   by_cases hroom:xs.length+ys.length≤cap
   ·have hnl:news.length=ys.length*i.size:=by rw[hl,hsz]
    have hsum:xs.length*i.size+news.length≤vs.size:=by
     rw[hnl,e4,hsz,← AkJ];exact AkD _ hroom
    have hr:=run_append_room (P:=P) w T ty e i hu hi0 b xs.length cap vs e1 ad ys.length c news hnl (hnews ad rfl) hone hroom hsum
    have hrow:vs.toList.take (xs.length*i.size)=row:=by rw[hsz,← hrl];exact e6
    rw[hrow]at hr
    obtain⟨hc,hgo⟩:=main (w.setRow b (row++news++vs.toList.drop (xs.length*i.size+news.length)).toArray) (row++news++vs.toList.drop (xs.length*i.size+news.length)).toArray rfl rfl rfl (by simp) (fun k _ hk=>setRow_other w b k _ hk) (setRow_heap w b vs (row++news++vs.toList.drop (xs.length*i.size+news.length)).toArray e _ e1) (by
     simp only[Ako,AjS,Aj3,AjZ]
     rw[hrl,e4]
     rw[hsz]at hsum ⊢
     rw[e4]at hsum
     omega) (by rw[AkU];exact Alu)
    exact⟨_,_,_,hr,hgo,fin _ b cap _ hc (.inl rfl) (setRow_heap w b vs _ e _ e1) hroom (by exact Alu)⟩
   ·have hbytes:(xs.length+ys.length)*i.bytes≤140737488355328:=Aka (Ali hfit hby) (by omega)
    have holds:∀ j u,row[j]? = some u→w.cell? ((⟨b,0,none⟩:Addr).add j)=some u:=fun j u hj=>by
     rw[Addr.add_lit,AkI]
     have hj':vs.toList[j]? = some u:=by
      rw[← e6,Aj7]at hj
      split at hj
      ·exact hj
      ·cases hj
     rw[Alc]at hj'
     simp[World.cell?,e1,hj']
    have hr:=run_append_grow (P:=P) w T ty e i z hu hi0 hz ⟨b,0,none⟩ xs.length cap row (by rw[hrl,hsz]) holds ad ys.length c news (by rw[hl,hsz]) (hnews ad rfl) (by omega) (by omega) (growslice_fits (by omega) hbytes)
    obtain⟨hc,hgo⟩:=main (w.drew.alloc (.cells (row.toArray++news.toArray++Builtin.zeroCells z.cells (grownCap w (xs.length+ys.length) cap e-(xs.length+ys.length))) e)) vs rfl rfl rfl (by simp) (fun k hk _=>heap_alloc_old w.drew _ k hk) ((heap_alloc_old w.drew _ b hblt).trans e1) e4 e6
    have hge:=grownCap_ge w (xs.length+ys.length) cap e
    exact⟨_,_,_,hr,hgo,fin _ w.heap.size _ _ hc (.inr ⟨rfl,Ay (heap_alloc_new w.drew _)⟩) (heap_alloc_new w.drew _) hge (by
     rw[AlI,AlI];exact Alu)⟩
end
end Go.Pev
end
section
namespace Go.Pev
open Go.RowKit
section
variable {P:Program}
theorem AhZ{w:World}{F:Nat→Prop}{m:Mp}{H:List Ob}{fz:List Bool}(hi:HI w F m H fz){id:Nat}{T:TypeId}{tgt:Nat}{is:List Int}(ho:H[id]? = some (.prs T tgt is)){v:Value}(hv:Rep w F m H (.own id) v):
  ∃ A c,v = .slice A is.length c∧(is≠[]→A.isSome=true)∧∃ us,Ad w F m H (Fq tgt is) us∧(∀ u∈us,u.oneCell'=true)∧∀ ad,A=some ad→∀ j u,us[j]? = some u→w.cell? (ad.add j)=some u:=by
 have hob:=hi.obj id _ ho
 unfold Rep at hv
 rw[ho]at hv
 cases hm:m id with
 |none=>
  rw[hm]at hv hob
  obtain⟨a,rfl⟩:=hv
  have hob:is=[]:=hob
  subst hob
  exact⟨a,0,rfl,fun h=>absurd rfl h,[],by show Ad w F m H [] [];unfold Ad;rfl,(by simp),fun _ _ j u h=>by simp at h⟩
 |some p=>
  obtain⟨b,cap⟩:=p
  rw[hm]at hv hob
  simp only[A8]at hv
  obtain⟨vs,us,e1,e2,e3,e4,e5,e6,e7⟩:=hob
  refine⟨some ⟨b,0,none⟩,cap,hv,fun _=>rfl,us,e5,e6,fun ad h j u hu => ?_⟩
  cases h
  rw[CC,DD e1]
  have:=Cj e7 hu
  rw[← this];congr 1;omega
theorem Kk{w:World}{F:Nat→Prop}{m:Mp}{H:List Ob}{fz:List Bool}(hi:HI w F m H fz){slot:Nat}(hf:Av H fz slot=true){T e ty:TypeId}{i:TypeInfo}{z:Value}(hu:P.underlying T=some (.slice e))
  (hi0:P.info? e=some i) (hz:i.zero=some z) (hzs:z.cells.size=1) (hsz:i.size=1) (hby:i.bytes≤1024) {tgt:Nat} {ys:List Int} (hfit:ys.length≤4294967296) (a:Option Addr)
  {A:Option Addr} {c:Nat} {news:List Value} (hA:ys≠[]→A.isSome=true) (hr:Ad w F m H (Fq tgt ys) news) (hone:∀ u∈news,u.oneCell'=true) (hnews:∀ ad,A=some ad→∀ j u,news[j]? = some u→w.cell? (ad.add j)=some u) :
  ∃ v w' m',(Builtin.append_ #[T,T] ty #[.slice a 0 0,.slice A ys.length c]).run P w = .ok v w'∧Ap w F m H fz w' F m' (H.set slot (.prs e tgt ys)) fz∧Rep w' F m' (H.set slot (.prs e tgt ys)) (.own slot) v:=by
 have hl:news.length=ys.length:=by rw[As hr,AA7]
 obtain⟨v,w',hrun,h1,h2,h3,h4,h5,h6⟩:=JR (P:=P) (w:=w) (ty:=ty) hu hi0 hz (by rw[hzs,hsz]) a (A:=A) (m:=ys.length) (c:=c) (news:=news) (by rw[hl,hsz];omega) (fun h=>hA (by rintro rfl;simp at h)) hnews hfit hby
 rcases h6 with⟨h0,rfl⟩|⟨cap',vs,rfl,q1,q2,q3,q4,q5⟩
 ·have hy:ys=[]:=Ajg h0
  subst hy
  have hgw:=Ap.grow hi h1 h2 h3 h4 h5
  obtain⟨m',hg,hrep⟩:=AFj hgw.2 hf e tgt a
  exact⟨_,w',m',hrun,hgw.trans hg,hrep⟩
 ·obtain⟨m',hg,hrep⟩:=R8 hi hf q1 h1 h2 h3 h4 h5 q2 q3 (by rw[q4,hsz];omega) hr hone (by rw[hsz,AlY]at q5;rw[hl];exact q5)
  exact⟨_,w',m',hrun,hg,hrep⟩
theorem Yu{w:World}{F:Nat→Prop}{m:Mp}{H:List Ob}{fz:List Bool}(hi:HI w F m H fz){slot:Nat}(hf:Av H fz slot=true){T e ty:TypeId}{i:TypeInfo}{z:Value}(hu:P.underlying T=some (.slice e))
  (hi0:P.info? e=some i) (hz:i.zero=some z) (hzs:z.cells.size=1) (hsz:i.size=1) (hby:i.bytes≤1024) {tgt id:Nat} {xs:List Int} (ho:H[id]? = some (.prs e tgt xs))
  {b cap:Nat} (hm:m id=some (b,cap)) {ys:List Int} (hfit:xs.length+ys.length≤4294967296)
  {A:Option Addr} {c:Nat} {news:List Value} (hA:ys≠[]→A.isSome=true) (hr:Ad w F m H (Fq tgt ys) news) (hone:∀ u∈news,u.oneCell'=true) (hnews:∀ ad,A=some ad→∀ j u,news[j]? = some u→w.cell? (ad.add j)=some u) :
  ∃ v w' m',(Builtin.append_ #[T,T] ty #[.slice (some ⟨b,0,none⟩) xs.length cap,.slice A ys.length c]).run P w = .ok v w' ∧
   Ap w F m H fz w' F m' ((H.set id .dead).set slot (.prs e tgt (xs++ys))) fz∧Rep w' F m' ((H.set id .dead).set slot (.prs e tgt (xs++ys))) (.own slot) v:=by
 have hl:news.length=ys.length:=by rw[As hr,AA7]
 have hob:=hi.obj id _ ho
 rw[hm]at hob
 obtain⟨vs,us,e1,e2,e3,e4,e5,e6,e7⟩:=hob
 have hul:us.length=xs.length:=by rw[As e5,AA7]
 have hold:vs.toList.take (xs.length*i.size)=us:=by rw[hsz,AlY,← hul];exact e7
 obtain⟨v,w',hrun,hgr⟩:=Qd (P:=P) (w:=w) (ty:=ty) hu hi0 hz (by rw[hzs,hsz]) (by omega) e1 (n:=xs.length) e2 e3 (by rw[e4,hsz];omega) (A:=A) (m:=ys.length) (c:=c) (news:=news) (by rw[hl,hsz];omega) (fun h=>hA (by rintro rfl;simp at h)) hnews
  hone hfit hby
 rw[hold]at hgr
 have hlen:(xs++ys).length=xs.length+ys.length:=AjS ..
 have hr0:Ad w F m H (Fq tgt (xs++ys)) (us++news):=by rw[Acd];exact G2 e5 hr
 have hone0:∀ u∈us++news,u.oneCell'=true:=fun u hu=>by
  rcases AjL.1 hu with h|h
  ·exact e6 u h
  ·exact hone u h
 have hlts:=Al (BN hf).1
 have hgs:((H.set id .dead).set slot (.prs e tgt (xs++ys)))[slot]? = some (.prs e tgt (xs++ys)):=Aw (by simpa using hlts)
 have hnl:(us++news).length=xs.length+ys.length:=by rw[AjS,hul,hl]
 have main:∀ (g cap':Nat) (vs':Array Value),(w.heap.size≤g∨g=b)→w'.heap[g]? = some (.cells vs' e (0,0))→xs.length+ys.length≤cap'→cap'≤maxLen→vs'.size=cap'→vs'.toList.take (xs.length+ys.length)=us++news →
   ∃ m',Ap w F m H fz w' F m' ((H.set id .dead).set slot (.prs e tgt (xs++ys))) fz∧Rep w' F m' ((H.set id .dead).set slot (.prs e tgt (xs++ys))) (.own slot) (.slice (some ⟨g,0,none⟩) (xs.length+ys.length) cap'):=by
  intro g cap' vs' hg q1 q2 q3 q4 q5
  have:=Ap.move (w':=w') hi (AG3 ho) hm hf (ob:=.prs e tgt (xs++ys)) trivial (b':=g) (c':=cap') hg.symm hgr.os hgr.tape hgr.output hgr.size (fun k hk hne=>hgr.keep k hk (fun b' h=>by cases h;exact hne))
   (fun hmono=>⟨vs',us++news,q1,by rw[hlen];exact q2,q3,q4,AQc hmono hr0,hone0,by rw[hnl];exact q5⟩)
  refine⟨_,this,?_⟩
  unfold Rep
  rw[hgs,Aq,← hlen]
  rfl
 rcases hgr.res with⟨h0,rfl,rfl⟩|⟨g,cap',vs',rfl,q1,q2,q3,q4,q5,q6⟩
 ·have hy:ys=[]:=Ajg h0
  subst hy
  have hn0:news=[]:=Ajg (by rw[hl];rfl)
  subst hn0
  obtain⟨m',hg,hrep⟩:=main b cap vs (.inr rfl) e1 (by simpa using e2) e3 e4 (by
   rw[AkS,Aji,Akc,← hul]
   exact e7)
  exact⟨_,_,m',hrun,hg,by simpa using hrep⟩
 ·obtain⟨m',hg,hrep⟩:=main g cap' vs' (by rcases q6 with h|h;exact .inl h;cases h;exact .inr rfl) q1 q2 q3 (by rw[q4,hsz];omega) (by rw[hsz,AlY]at q5;exact q5)
  exact⟨_,_,m',hrun,hg,hrep⟩
end
end Go.Pev
end
section
namespace Go.Pev
open Go.RowKit
section
variable {P:Program}
theorem AVc{w:World}{F:Nat→Prop}{m:Mp}{H:List Ob}{fz:List Bool}(hi:HI w F m H fz){T e ty:TypeId}{t:Ty}{i:TypeInfo}{z:Value}(hu:P.underlying T=some (.slice e))
  (hi0:P.info? e=some i) (hz:i.zero=some z) (hzs:z.cells.size=i.size) (hsz:i.size=t.size) (hpos:0<t.size) (hby:i.bytes≤1024) {id k ver:Nat} {T0:RK} {xs:List (List t.den)} (ho:H[id]? = some (.rows T0 e t xs ver none)) (hun:fz.getD id false=false)
  {v:Value} (hv:Rep w F m H (.rowp id k ver) v) {ys:List t.den} (hfit:(AY xs k []).length+ys.length≤4294967296)
  {A:Option Addr} {c:Nat} {news:List Value} (hA:ys≠[]→A.isSome=true) (hrows:rows (Dat w F t) ys news) (hnews:∀ ad,A=some ad→∀ j u,news[j]? = some u→w.cell? (ad.add j)=some u) :
  ∃ v' w' m',(Builtin.append_ #[T,T] ty #[v,.slice A ys.length c]).run P w = .ok v' w'∧Ap w F m H fz w' F m' (H.set id (.rows T0 e t (T0.put xs k (A2 (AY xs k []) ys)) (ver+1) (some k))) fz ∧
   Rep w' F m' (H.set id (.rows T0 e t (T0.put xs k (A2 (AY xs k []) ys)) (ver+1) (some k))) (.rowp id k (ver+1)) v':=by
 have hk:=fun(x:t.den) cs (h:Dat w F t x cs)=>Dat.length t h
 have hl:=A5 hk hrows
 unfold Rep at hv
 rw[ho]at hv
 obtain⟨_,_,h7⟩:=hv
 obtain⟨zs,l0,hzz,hnx,hrep,hob,hl0,hle⟩:∃ (zs:List t.den) (l0:Option (Nat×Nat)),AY xs k []=zs∧(xs[k]? = some zs∨(T0.I7=false∧k=xs.length))∧A8 (some (.arr 0 t zs)) l0 v∧ObI w F m H (.arr e t zs) l0 ∧
   (∀ b c,l0=some (b,c)→owned H fz (.r id k)∧m (.r id k)=some (b,c))∧k≤xs.length:=by
  rcases h7 rfl with⟨zs,h1,h2⟩|⟨h0,h1,h2⟩
  ·exact⟨zs,m (.r id k),by unfold AY;rw[AjI,h1];rfl,.inl h1,h2,(hi.row id T0 e t xs ver none ho k zs h1).1,fun b c h=>⟨KQ ho hun (CU h1),h⟩,Ak8 (CU h1)⟩
  ·refine⟨[],none,?_,.inr ⟨h0,h1⟩,⟨_,h2⟩,⟨hpos,rfl⟩,(fun b c h=>by cases h),Ala h1⟩
   unfold AY
   rw[AjI,Ajo (by rw[h1];exact AjO _)];rfl
 rw[hzz]at hfit ⊢
 have hput:∀ y:List t.den,(T0.put xs k y)[k]? = some y∧(∀ k',k'≠k→(T0.put xs k y)[k']? = xs[k']?)∧(T0.I7=true→xs.length=(T0.put xs k y).length)∧(xs.length=(T0.put xs k y).length∨(T0.I7=false∧k=xs.length∧(T0.put xs k y).length=xs.length+1)):=by
  intro y
  have hlt:k<xs.length→((xs.set k y)[k]? = some y∧(∀ k',k'≠k→(xs.set k y)[k']? = xs[k']?)∧(T0.I7=true→xs.length=(xs.set k y).length)∧(xs.length=(xs.set k y).length∨(T0.I7=false∧k=xs.length∧(xs.set k y).length=xs.length+1))):=fun h=>
   ⟨Akh h,fun k' hk'=>Ajx (Ajy hk'),fun _=>List.length_set.symm,.inl List.length_set.symm⟩
  cases T0 with
  |arr T=>exact hlt (by rcases hnx with h|⟨h,_⟩;exact CU h;cases h)
  |map j ks=>
   simp only[RK.put,Lr]
   split
   ·rename_i h;exact hlt h
   ·rename_i h
    have hk:k=xs.length:=Nat.le_antisymm hle (Nat.le_of_not_lt h)
    refine⟨by rw[hk];simp,fun k' hk' => ?_,(fun h=>by cases h),.inr ⟨rfl,hk,by simp⟩⟩
    rcases Aj5 k' xs.length with h'|h'
    ·rw[Ajp h']
    ·rw[Ajo h',Ajo (by rw[AjS,Aj8];omega)]
 have fin:∀ (w':World) (l:Option (Nat×Nat)) (v':Value),(∀ b c,l=some (b,c)→(∃ c0,l0=some (b,c0))∨w.heap.size≤b)→w'.os=w.os→w'.tape=w.tape→w'.output=w.output→w.heap.size≤w'.heap.size →
   (∀ b,b<w.heap.size→(∀ c,l0≠some (b,c))→w'.heap[b]? = w.heap[b]?)→((∀ {d:t.den} {cs:List Value},Dat w F t d cs→Dat w' F t d cs)→ObI w' F m H (.arr e t (zs++ys)) l)→A8 (some (.arr e t (zs++ys))) l v' →
   ∃ m',Ap w F m H fz w' F m' (H.set id (.rows T0 e t (T0.put xs k (A2 zs ys)) (ver+1) (some k))) fz∧Rep w' F m' (H.set id (.rows T0 e t (T0.put xs k (A2 zs ys)) (ver+1) (some k))) (.rowp id k (ver+1)) v':=by
  intro w' l v' hl' h1 h2 h3 h4 h5 h6 h8
  obtain⟨p1,p2,p3,p4⟩:=hput (A2 zs ys)
  have hg:=Ap.E7 hi ho hun l p1 p2 p3 (fun b cap _ h=>by
    rcases p4 with p4|⟨p4,p5,p6⟩
    ·rw[← p4];exact h.out (by rw[p4];exact CU p1)
    ·cases T0 with
     |arr T=>cases p4
     |map j ks=>
      obtain⟨ms,clock,e1,e2,e3,e4,_⟩:=h
      have e4:=e4.resolve_right fun h=>by cases h.1
      exact⟨ms,clock,e1,e2,e3,.inr ⟨by rw[p5,e4],by rw[p6,e4]⟩,fun k' h=>by cases h;exact CU p1⟩)
   (fun ha hx=>Ajg (by rw[← p3 ha,hx];rfl))
   (fun b c h=>(hl' b c h).imp (fun ⟨c0,h⟩=>⟨c0,hl0 b c0 h⟩) (fun h=>h)) h1 h2 h3 h4 (fun b hb hn=>h5 b hb fun c hc=>(hn c (hl0 b c hc).1 (hl0 b c hc).2)) h6
  refine⟨_,hg,?_⟩
  unfold Rep
  rw[Aw (Al ho),HZ]
  exact⟨h8.one,AjO _,fun _=>.inl ⟨zs++ys,p1,h8⟩⟩
 cases hm:l0 with
 |none=>
  rw[hm]at hob hrep
  obtain⟨a,rfl⟩:=hrep
  obtain⟨_,hzn⟩:=hob
  simp only at hzn
  subst hzn
  obtain⟨v',w',hrun,h1,h2,h3,h4,h5,h6⟩:=JR (P:=P) (w:=w) (ty:=ty) hu hi0 hz hzs a (A:=A) (m:=ys.length) (c:=c) (news:=news) (by rw[hl,hsz]) (fun h=>hA (by rintro rfl;simp at h)) hnews (by simpa using hfit) hby
  rcases h6 with⟨h0,rfl⟩|⟨cap',vs,rfl,q1,q2,q3,q4,q5⟩
  ·have hy:ys=[]:=Ajg h0
   subst hy
   obtain⟨m',hg,hr⟩:=fin w' none _ (fun b c h=>by cases h) h1 h2 h3 h4 (fun b hb _=>h5 b hb) (fun _=>⟨hpos,rfl⟩) ⟨a,rfl⟩
   exact⟨_,w',m',hrun,hg,hr⟩
  ·obtain⟨m',hg,hr⟩:=fin w' (some (w.heap.size,cap')) _ (fun b c h=>by cases h;exact .inr (AjO _)) h1 h2 h3 h4 (fun b hb _=>h5 b hb)
    (fun hd=>⟨hpos,vs,news,q1,q2,q3,by rw[q4,hsz],BM (fun x _ cs hx=>hd hx) hrows,by rw[hl,← hsz];exact q5⟩) rfl
   exact⟨_,w',m',hrun,hg,hr⟩
 |some p=>
  obtain⟨b,cap⟩:=p
  rw[hm]at hob hrep
  obtain⟨_,vs,row,e1,e2,e3,e4,e5,e6⟩:=hob
  simp only[A8]at hrep
  subst hrep
  have hrl:=A5 hk e5
  obtain⟨v',w',hrun,hgr⟩:=Qd (P:=P) (w:=w) (ty:=ty) hu hi0 hz hzs (by omega) e1 (n:=zs.length) e2 e3 (by rw[e4,hsz]) (A:=A) (m:=ys.length) (c:=c) (news:=news) (by rw[hl,hsz]) (fun h=>hA (by rintro rfl;simp at h)) hnews
   (fun u hu=>RP (fun x cs (h:Dat w F t x cs)=>Dat.HP t h) hrows u hu) hfit hby
  have hold:vs.toList.take (zs.length*i.size)=row:=by rw[hsz,← hrl];exact e6
  rw[hold]at hgr
  have hr0:=H3 e5 hrows
  have hlen:(row++news).length=(zs.length+ys.length)*t.size:=by rw[AjS,hrl,hl,AkJ]
  have hkeep:∀ b',b'<w.heap.size→(∀ c,l0≠some (b',c))→w'.heap[b']? = w.heap[b']? := fun b' hb' hn=>hgr.keep b' hb' fun b0 h=>by
   cases h
   rintro rfl
   exact hn cap hm
  rcases hgr.res with⟨h0,rfl,rfl⟩|⟨g,cap',vs',rfl,q1,q2,q3,q4,q5,q6⟩
  ·have hy:ys=[]:=Ajg h0
   subst hy
   obtain⟨m',hg,hr⟩:=fin w' (some (b,cap)) _ (fun b c h=>by cases h;exact .inl ⟨_,hm⟩) hgr.os hgr.tape hgr.output hgr.size hkeep
    (fun _=>⟨hpos,vs,row,e1,by rw[AkS];exact e2,e3,e4,by rw[AkS];exact e5,e6⟩) (by rw[AkS];rfl)
   exact⟨_,w',m',hrun,hg,hr⟩
  ·obtain⟨m',hg,hr⟩:=fin w' (some (g,cap')) (.slice (some ⟨g,0,none⟩) (zs.length+ys.length) cap') (fun b' c h=>by
     cases h
     rcases q6 with h|h
     ·exact .inr h
     ·cases h;exact .inl ⟨_,hm⟩) hgr.os hgr.tape hgr.output hgr.size hkeep
    (fun hd=>⟨hpos,vs',row++news,q1,by rw[AjS];exact q2,q3,by rw[q4,hsz],BM (fun x _ cs hx=>hd hx) hr0,by rw[hlen,← hsz];exact q5⟩) (by simp only[A8,AjS])
   exact⟨_,w',m',hrun,hg,hr⟩
end
end Go.Pev
end
section
namespace Go.Pev
open Go.RowKit
section
variable {P:Program} {E:Env}
theorem ALH(args:Array Operand)(ts:Array TypeId):Claim P E (.call { callee:=.builtin .append,args:=args,argTypes:=ts }):=by
 intro R ty ρ H fz slot k r h
 simp only[evalOp]at h
 split at h
 ·rename_i s x T T' ha hts
  obtain rfl:=AhL ha
  obtain rfl:=AhL hts
  split at h
  ·rename_i e t hsl hTT
   simp only[AjJ]at hTT
   subst hTT
   split at h
   ·rename_i ys fr zz hys hz hby
    obtain⟨hu,hty0,hpos⟩:=Bt hsl
    obtain⟨t',cs'⟩:=zz
    obtain⟨hty',hcs',i,z,hi0,hz0,hok,hsz,hza⟩:=Bl hz
    subst hcs'
    have:t'=t:=by rw[hty0]at hty';exact(AkR hty').symm
    subst this
    have hzs:z.cells.size=i.size:=by
     have hzd:=Bb (w:=default) (F:=fun _=>False) t' _ hok
     rw[hsz,← AjZ];exact Dat.length t' hzd
    have hby':i.bytes≤1024:=by simpa [hi0]using hby
    split at h
    ·rename_i et hs
     split at h
     ·rename_i hfit
      split at h
      ·rename_i hf
       refine⟨_,_,h,fun R' k'=>by simp only[evalOp,hsl,AjV,hys,hz,hby,hs,hfit,hf],A4 fun w F m ρc o hop hty hi hr => ?_⟩
       have hrs:=hr s
       rw[hs]at hrs
       unfold Rep at hrs
       obtain⟨A,c,q1,q2,q3,news,q4,q5⟩:=Dk hi hys (hr x)
       obtain⟨v,w',m',hrun,hg,hrep⟩:=Fa (P:=P) (ty:=o.type) hi hf hu hi0 hz0 hzs hsz hpos hby' (by have:(ys.length:Int)≤4294967296:=(FL _).1 hfit;omega) none (c:=c) q3 q4 q5
       exact⟨v,w',F,m',B2 hop hrs q1 hrun,hg,hrep⟩
      ·cases h
     ·cases h
    ·rename_i t2 xs hs
     split at h
     ·rename_i xs' hc hne
      split at h
      ·rename_i hfit
       split at h
       ·rename_i hf
        refine⟨_,_,h,fun R' k'=>by simp only[evalOp,hsl,AjV,hys,hz,hby,hs,hc,hne,hfit,hf],A4 fun w F m ρc o hop hty hi hr => ?_⟩
        obtain⟨et,hx⟩:=CQ hc
        subst et;simp only at hx;subst hx
        have hrs:=hr s
        rw[hs]at hrs
        obtain⟨A,c,q1,q2,q3,news,q4,q5⟩:=Dk hi hys (hr x)
        have hfit':xs.length+ys.length≤4294967296:=by
         have:((xs.length:Int)+(ys.length:Int))≤4294967296:=(FL _).1 hfit
         omega
        obtain⟨v,w',m',hrun,hg,hrep⟩:=AQX (P:=P) (ty:=o.type) hi hf hu hi0 hz0 hzs hsz hpos hby' hfit' (by rintro rfl;simp at hne) hrs (c:=c) q3 q4 q5
        exact⟨v,w',F,m',B2 hop rfl q1 hrun,hg,hrep⟩
       ·cases h
      ·cases h
     ·cases h
    ·rename_i id hs
     split at h
     ·rename_i e' t2 xs ho
      split at h
      ·rename_i hue
       split at h
       ·rename_i xs' hc
        split at h
        ·rename_i hfit
         split at h
         ·rename_i hkp
          refine⟨_,_,h,fun R' k'=>by simp only[evalOp,hsl,AjV,hys,hz,hby,hs,ho,hue,hc,hfit,hkp],A4 fun w F m ρc o hop hty hi hr => ?_⟩
          simp only[AjK,AjJ]at hue
          obtain⟨hun,rfl⟩:=hue
          obtain⟨et,hx⟩:=CQ hc
          subst et;simp only at hx;subst hx
          have hrs:=hr s
          rw[hs]at hrs
          obtain⟨A,c,q1,q2,q3,news,q4,q5⟩:=Dk hi hys (hr x)
          have hfit':xs.length+ys.length≤4294967296:=by
           have:((xs.length:Int)+(ys.length:Int))≤4294967296:=(FL _).1 hfit
           omega
          obtain⟨v,w',F',hrun,hg,hrep⟩:=AQW (P:=P) (ty:=o.type) hi hu hi0 hz0 hzs hsz hpos hby' ho hun hfit' (c:=c) q3 q4 q5 hrs
          exact⟨v,w',F',m,B2 hop rfl q1 hrun,hg,hrep⟩
         rename_i hkp
         split at h
         ·rename_i hf
          refine⟨_,_,h,fun R' k'=>by simp only[evalOp,hsl,AjV,hys,hz,hby,hs,ho,hue,hc,hfit,hkp,hf],A4 fun w F m ρc o hop hty hi hr => ?_⟩
          simp only[AjK,AjJ]at hue
          obtain⟨hun,rfl⟩:=hue
          obtain⟨et,hx⟩:=CQ hc
          subst et;simp only at hx;subst hx
          have hrs:=hr s
          rw[hs]at hrs
          unfold Rep at hrs
          rw[ho]at hrs
          obtain⟨A,c,q1,q2,q3,news,q4,q5⟩:=Dk hi hys (hr x)
          have hfit':xs.length+ys.length≤4294967296:=by
           have:((xs.length:Int)+(ys.length:Int))≤4294967296:=(FL _).1 hfit
           omega
          have hsn:=AKr hf ho
          cases hm:m id with
          |none=>
           obtain⟨_,hob⟩:=hi.obj id _ ho
           rw[hm]at hrs hob
           obtain⟨a,e1⟩:=hrs
           simp only at hob;subst hob
           have hkill:=Ap.kill hi (CG ho hun)
           obtain⟨v,w',m',hrun,hg,hrep⟩:=Fa (P:=P) (ty:=o.type) hkill.2 (LX hf hsn) hu hi0 hz0 hzs hsz hpos hby' (by simpa using hfit') a (c:=c) q3 q4 q5
           exact⟨v,w',F,m',B2 hop e1 q1 hrun,hkill.trans hg,hrep⟩
          |some p=>
           obtain⟨b,cap⟩:=p
           rw[hm]at hrs
           simp only[A8]at hrs
           obtain⟨v,w',m',hrun,hg,hrep⟩:=X1 (P:=P) (ty:=o.type) hi hf hu hi0 hz0 hzs hsz hpos hby' ho hun hm (AjO _) hfit' (c:=c) q3 q4 q5
           rw[Akv]at hg hrep
           exact⟨v,w',F,m',B2 hop hrs q1 hrun,hg,hrep⟩
         ·cases h
        ·cases h
       ·cases h
      ·cases h
     ·cases h
    ·rename_i id kx ver hs
     split at h
     ·rename_i T0 e' t2 xs ver' ho
      split at h
      ·rename_i hue
       split at h
       ·rename_i xs' hc
        split at h
        ·rename_i hfit
         refine⟨_,_,h,fun R' k'=>by simp only[evalOp,hsl,AjV,hys,hz,hby,hs,ho,hue,hc,hfit],A4 fun w F m ρc o hop hty hi hr => ?_⟩
         simp only[AjK,AjJ]at hue
         obtain⟨hun,rfl,rfl⟩:=hue
         obtain⟨et,hx⟩:=CQ hc
         cases et;simp only at hx;subst hx
         have hun':fz.getD id false=false:=by unfold Aj at hun;simpa using hun
         have hrs:=hr s
         rw[hs]at hrs
         obtain⟨A,c,q1,q2,q3,news,q4,q5⟩:=Dk hi hys (hr x)
         have hfit':(AY xs kx []).length+ys.length≤4294967296:=by
          have:(((AY xs kx []).length:Int)+(ys.length:Int))≤4294967296:=(FL _).1 hfit
          omega
         obtain⟨v,w',m',hrun,hg,hrep⟩:=AVc (P:=P) (ty:=o.type) hi hu hi0 hz0 hzs hsz hpos hby' ho hun' hrs hfit' (c:=c) q3 q4 q5
         exact⟨v,w',F,m',B2 hop rfl q1 hrun,hg,hrep⟩
        ·cases h
       ·cases h
      ·cases h
     ·cases h
    ·rename_i id n hs
     split at h
     ·rename_i e' t2 xs ho
      split at h
      ·rename_i hue
       split at h
       ·rename_i xs' hc
        split at h
        ·rename_i hfit
         split at h
         ·rename_i hf
          refine⟨_,_,h,fun R' k'=>by simp only[evalOp,hsl,AjV,hys,hz,hby,hs,ho,hue,hc,hfit,hf],A4 fun w F m ρc o hop hty hi hr => ?_⟩
          simp only[AjK,AjJ]at hue
          obtain⟨hun,rfl⟩:=hue
          obtain⟨et,hx⟩:=CQ hc
          subst et;simp only at hx;subst hx
          have hrs:=hr s
          rw[hs]at hrs
          unfold Rep at hrs
          rw[ho]at hrs
          obtain⟨hle,hrs⟩:=hrs
          obtain⟨A,c,q1,q2,q3,news,q4,q5⟩:=Dk hi hys (hr x)
          have hfit':n+ys.length≤4294967296:=by
           have:((n:Int)+(ys.length:Int))≤4294967296:=(FL _).1 hfit
           omega
          have hsn:=AKr hf ho
          obtain⟨_,hob⟩:=hi.obj id _ ho
          have zero:∀ a,n=0→ρc s = .slice a 0 0→∃ u w' F' m',(execOp ρc o).run P w = .ok (.value u) w'∧Ap w F m H fz w' F' m' ((H.set id .dead).set slot (.arr e _ (A2 (Bp n xs) ys))) fz ∧
            Rep w' F' m' ((H.set id .dead).set slot (.arr e _ (A2 (Bp n xs) ys))) (.own slot) u:=by
           intro a h0 e1
           subst h0
           have hkill:=Ap.kill hi (CG ho hun)
           obtain⟨v,w',m',hrun,hg,hrep⟩:=Fa (P:=P) (ty:=o.type) hkill.2 (LX hf hsn) hu hi0 hz0 hzs hsz hpos hby' (by simpa using hfit') a (c:=c) q3 q4 q5
           exact⟨v,w',F,m',B2 hop e1 q1 hrun,hkill.trans hg,hrep⟩
          cases hm:m id with
          |none=>
           rw[hm]at hrs hob
           obtain⟨a,e1⟩:=hrs
           simp only at hob;subst hob
           have hn:n=0:=by simpa using hle
           exact zero a hn (by rw[e1,hn])
          |some p=>
           obtain⟨b,cap⟩:=p
           rw[hm]at hrs hob
           obtain⟨a,e1,e2⟩:=hrs
           obtain⟨vs,row,o1,o2,_⟩:=hob
           rcases Akb cap with hcap|hcap
           ·exact zero a (by omega) (by rw[e1,hcap,show n=0 from by omega])
           ·have ha:=e2 hcap
            rw[Als]at ha
            subst ha
            obtain⟨v,w',m',hrun,hg,hrep⟩:=X1 (P:=P) (ty:=o.type) hi hf hu hi0 hz0 hzs hsz hpos hby' ho hun hm (n:=n) (by omega) hfit' (c:=c) q3 q4 q5
            exact⟨v,w',F,m',B2 hop e1 q1 hrun,hg,hrep⟩
         ·cases h
        ·cases h
       ·cases h
      ·cases h
     ·cases h
    ·cases h
   ·cases h
  ·rename_i e t hsl hTT
   split at h
   ·rename_i et j n zz kk hs hx hz hk hby
    split at h
    ·rename_i hfit
     split at h
     ·rename_i hf
      refine⟨_,_,h,fun R' k'=>by simp only[evalOp,hsl,hTT,hs,hx,hz,hk,hby,hfit,hf],A4 fun w F m ρc o hop hty hi hr => ?_⟩
      obtain⟨hu,hty0,hpos⟩:=Bt hsl
      obtain⟨t',cs'⟩:=zz
      obtain⟨hty',hcs',i,z,hi0,hz0,hok,hsz,hza⟩:=Bl hz
      subst hcs'
      have:t'=t:=by rw[hty0]at hty';exact(AkR hty').symm
      subst this
      rw[E1]at hfit
      obtain⟨n',rfl⟩:=AjU hfit.1
      have hrs:=hr s
      rw[hs]at hrs
      unfold Rep at hrs
      have e2:=BA (hx▸hr x)
      have hby':i.bytes≤1024:=by simpa [hi0]using hby
      obtain⟨v,w',m',hrun,hg,hrep⟩:=AQV (P:=P) (ty:=o.type) hi hf hu hi0 hz0 hok hsz hpos hby' (Gx hk) (kx:=j) (n:=n') (by omega)
      exact⟨v,w',F,m',AKw hop hrs e2 hrun,hg,hrep⟩
     ·cases h
    ·cases h
   ·cases h
  ·rename_i hsl hTT
   simp only[AjJ]at hTT
   subst hTT
   split at h
   ·rename_i e ix hce hx
    split at h
    ·rename_i e1 tgt ys hox
     split at h
     ·rename_i he
      simp only[AjJ]at he
      subst he
      obtain⟨hu,ii,z,hi0,hz0,hsz,hzs,hby⟩:=Xx hce
      split at h
      ·rename_i et hs
       split at h
       ·rename_i hfit
        split at h
        ·rename_i hf
         refine⟨_,_,h,fun R' k'=>by simp only[evalOp,hsl,AjV,hce,hx,hox,hs,hfit,hf],A4 fun w F m ρc o hop hty hi hr => ?_⟩
         have hrs:=hr s
         rw[hs]at hrs
         unfold Rep at hrs
         obtain⟨A,c,q1,q2,news,q3,q4,q5⟩:=AhZ hi hox (hx▸hr x)
         obtain⟨v,w',m',hrun,hg,hrep⟩:=Kk (P:=P) (ty:=o.type) hi hf hu hi0 hz0 hzs hsz hby (by have:(ys.length:Int)≤4294967296:=(FL _).1 hfit;omega) none (c:=c) q2 q3 q4 q5
         exact⟨v,w',F,m',B2 hop hrs q1 hrun,hg,hrep⟩
        ·cases h
       ·cases h
      ·rename_i id hs
       split at h
       ·rename_i e2 tgt2 xs ho
        split at h
        ·rename_i hue
         split at h
         ·rename_i hfit
          split at h
          ·rename_i hf
           refine⟨_,_,h,fun R' k'=>by simp only[evalOp,hsl,AjV,hce,hx,hox,hs,ho,hue,hfit,hf],A4 fun w F m ρc o hop hty hi hr => ?_⟩
           simp only[AjK,AjJ]at hue
           obtain⟨rfl,rfl⟩:=hue
           have hrs:=hr s
           rw[hs]at hrs
           unfold Rep at hrs
           rw[ho]at hrs
           obtain⟨A,c,q1,q2,news,q3,q4,q5⟩:=AhZ hi hox (hx▸hr x)
           have hfit':xs.length+ys.length≤4294967296:=by
            have:((xs.length:Int)+(ys.length:Int))≤4294967296:=(FL _).1 hfit
            omega
           have hsn:=APb hf ho
           cases hm:m id with
           |none=>
            have hob:=hi.obj id _ ho
            rw[hm]at hrs hob
            obtain⟨a,e1⟩:=hrs
            have hob:xs=[]:=hob
            subst hob
            have hkill:=Ap.kill hi (AG3 ho)
            obtain⟨v,w',m',hrun,hg,hrep⟩:=Kk (P:=P) (ty:=o.type) hkill.2 (LX hf hsn) hu hi0 hz0 hzs hsz hby (by simpa using hfit') a (c:=c) q2 (hkill.1.Ai8 hi q3) q4 q5
            exact⟨v,w',F,m',B2 hop e1 q1 hrun,hkill.trans hg,hrep⟩
           |some p=>
            obtain⟨b,cap⟩:=p
            rw[hm]at hrs
            simp only[A8]at hrs
            obtain⟨v,w',m',hrun,hg,hrep⟩:=Yu (P:=P) (ty:=o.type) hi hf hu hi0 hz0 hzs hsz hby ho hm hfit' (c:=c) q2 q3 q4 q5
            exact⟨v,w',F,m',B2 hop hrs q1 hrun,hg,hrep⟩
          ·cases h
         ·cases h
        ·cases h
       ·cases h
      ·cases h
     ·cases h
    ·cases h
   ·cases h
  ·cases h
 ·cases h
end
end Go.Pev
end
section
namespace Go.Pev
open Go.RowKit
section
variable {P:Program} {E:Env}
theorem Aag(args:Array Operand)(ts:Array TypeId):Claim P E (.call { callee:=.builtin .cap,args:=args,argTypes:=ts }):=by
 intro R ty ρ H fz slot k r h
 simp only[evalOp]at h
 split at h
 ·rename_i x T ha hts
  obtain rfl:=Aa1 ha
  obtain rfl:=Aa1 hts
  split at h
  ·rename_i e et hu hx
   refine⟨_,_,h,fun R' k'=>by simp only[evalOp,hu,hx],AW fun w F m ρc o hop hty hi hr=>⟨.int .i64 0,?_,A1 _ _⟩⟩
   have hrx:=hr x
   rw[hx]at hrx
   unfold Rep at hrx
   simp[execOp,hop,resolve,invoke,builtin,hrx,Builtin.cap_,run_underlying hu,goInt]
  ·cases h
 ·cases h
theorem Aad(args:Array Operand)(ts:Array TypeId):Claim P E (.call { callee:=.builtin .min,args:=args,argTypes:=ts }):=by
 intro R ty ρ H fz slot k r h
 simp only[evalOp]at h
 split at h
 ·rename_i x y ha
  obtain rfl:=AhL ha
  split at h
  ·rename_i j a j' b hx hy
   refine⟨_,_,h,fun R' k'=>by simp only[evalOp,hx,hy],AW fun w F m ρc o hop hty hi hr=>⟨.int j (Ci a b),?_,A1 _ _⟩⟩
   have e1:=BA (hx▸hr x)
   have e2:=BA (hy▸hr y)
   simp[execOp,hop,resolve,invoke,builtin,e1,e2,run_min_int2,Ci]
  ·cases h
 ·cases h
theorem AE8{w:World}(ts:Array TypeId)(t:TypeId)(k k':IntKind)(x y:Int):(Builtin.max_ ts t #[.int k x,.int k' y]).run P w = .ok (.int k (if y > x then y else x)) w:=by
 simp[Builtin.max_,Builtin.max2]
theorem Aae(args:Array Operand)(ts:Array TypeId):Claim P E (.call { callee:=.builtin .max,args:=args,argTypes:=ts }):=by
 intro R ty ρ H fz slot k r h
 simp only[evalOp]at h
 split at h
 ·rename_i x y ha
  obtain rfl:=AhL ha
  split at h
  ·rename_i j a j' b hx hy
   refine⟨_,_,h,fun R' k'=>by simp only[evalOp,hx,hy],AW fun w F m ρc o hop hty hi hr=>⟨.int j (imax a b),?_,A1 _ _⟩⟩
   have e1:=BA (hx▸hr x)
   have e2:=BA (hy▸hr y)
   simp[execOp,hop,resolve,invoke,builtin,e1,e2,AE8,imax]
  ·cases h
 ·cases h
theorem AMq{H:List Ob}{i:Nat}{o:Ob}(h:H[i]? = some o):H.set i o=H:=by
 apply Ak5
 intro j
 by_cases hij:j=i
 ·subst hij;rw[Aw (Al h),h]
 ·rw[Ab hij]
theorem ADT{α:Type}{off n:Nat}{z:α}{xs:List α}(h:off+n≤xs.length):(Bm off n z xs).length=xs.length:=by
 simp only[Bm,AjS,Ajb,AkV,Aj3];omega
theorem APw{α:Type}(off:Nat)(z:α)(xs:List α):Bm off 0 z xs=xs:=by simp[Bm]
theorem AHj{w:World}{F:Nat→Prop}{m:Mp}{H:List Ob}{fz:List Bool}(hi:HI w F m H fz){id:Nat}{T:TypeId}{t:Ty}{xs:List t.den}(ho:H[id]? = some (.arr T t xs))(hf:Aj fz id=true)
  {b cap:Nat} (hm:m id=some (b,cap)) {off n:Nat} (hle:off+n≤xs.length) {z:List Value} (hz:Dat w F t t.zero z) (h1:∀ u∈z,u.oneCell'=true) {zs:Array Value} (hzs:zs.toList=(List.replicate n z).flatten) :
  ∃ w',(storeCells ⟨b,off*t.size,none⟩ zs.toList).run P w = .ok () w'∧Ap w F m H fz w' F m (H.set id (.arr T t (Bm off n t.zero xs))) fz:=by
 have hob:=hi.obj id _ ho
 obtain⟨h0,hob⟩:=hob
 rw[hm]at hob
 obtain⟨vs,row,e1,e2,e3,e4,e7,e8⟩:=hob
 have hk:=fun(x:t.den) cs (h:Dat w F t x cs)=>Dat.length t h
 have hlen:=A5 hk e7
 have hrz:=E8 (w:=w) (F:=F) hz n
 have hdl:=A5 hk hrz
 rw[AkV,← hzs]at hdl
 have hle1:off*t.size+n*t.size≤xs.length*t.size:=by
  have:=AkD t.size hle
  rwa [AkJ]at this
 have hle2:xs.length*t.size≤cap*t.size:=AkD _ e2
 have hvl:vs.toList.length=cap*t.size:=by rw[AjZ,e4]
 have hst:=run_storeCells_at P b (off*t.size) T zs.toList 0 vs w e1 (by simp only[Akc,hdl,e4];omega) (by
  intro u hu
  rw[hzs,AmU]at hu
  obtain⟨l,hl,hul⟩:=hu
  rw[Ak9 hl]at hul
  exact h1 u hul)
 simp only[Akc,hdl]at hst
 obtain⟨r1,r2,r3,r4,r5⟩:=Gs (w:=w) (b:=b) (cs:=(vs.toList.take (off*t.size)++zs.toList++vs.toList.drop (off*t.size+n*t.size)).toArray)
 refine⟨_,hst,?_⟩
 refine Ap.set hi (CG ho hf) hm ho ⟨rfl,(ADT hle).symm⟩ r1 r2 r3 r4 r5 fun hmono => ?_
 refine⟨h0,?_⟩
 rw[hm]
 refine⟨_,row.take (off*t.size)++(zs.toList++row.drop (off*t.size+n*t.size)),setRow_heap w b vs _ T _ e1,by rw[ADT hle];exact e2,e3,?_,?_,?_⟩
 ·simp only[Ako,AjS,Ajb,Aj3,hvl,hdl];omega
 ·have hcell:∀ k,F k→(w.setRow b (vs.toList.take (off*t.size)++zs.toList++vs.toList.drop (off*t.size+n*t.size)).toArray).heap[k]? = w.heap[k]? := fun k ha=>
   Gs.2.2.2.2 k (by rintro rfl;exact hi.off id _ cap (CG ho hf) hm ha)
  refine BM (R:=Dat w F t) (fun x _ cs hx=>hx.mono hcell (fun _ h=>h) t) ?_
  have:=Hc hk (off+n) e7
  rw[AkJ]at this
  exact H3 (Ds hk off e7) (H3 (by rw[hzs];exact hrz) this)
 ·have hrl:(row.take (off*t.size)++(zs.toList++row.drop (off*t.size+n*t.size))).length=row.length:=by
   simp only[AjS,Ajb,Aj3,hdl];omega
  rw[hrl]
  show List.take row.length (vs.toList.take (off*t.size)++zs.toList++vs.toList.drop (off*t.size+n*t.size))=_
  have h1:row.take (off*t.size)=vs.toList.take (off*t.size):=by
   rw[← e8,AlW,AkT (by omega)]
  have h2:row.drop (off*t.size+n*t.size)=(vs.toList.drop (off*t.size+n*t.size)).take (row.length-(off*t.size+n*t.size)):=by
   conv=>lhs;rw[← e8]
   rw[List.drop_take]
  rw[h1,h2,AlM,AkQ (by simp only[AjS,Ajb,hvl,hdl];omega),AkU]
  congr 3
  simp only[AjS,Ajb,hvl,hdl];omega
theorem IV{w w':World}{ρc:Operand→Value}{o:Oper}{T:TypeId}{x:Operand}{v:Value}(hop:o.op = .call { callee:=.builtin .clear,args:=#[x],argTypes:=#[T] })(e1:ρc x=v)
  (hrun:(Builtin.clear_ #[T] o.type #[v]).run P w = .ok (.tuple #[]) w'):(execOp ρc o).run P w = .ok (.value (.tuple #[])) w':=by simp[execOp,hop,resolve,invoke,builtin,e1,hrun]
theorem Hz{w:World}{T e ty:TypeId}(hu:P.underlying T=some (.slice e))(a:Option Addr)(c:Nat):(Builtin.clear_ #[T] ty #[.slice a 0 c]).run P w = .ok (.tuple #[]) w:=by
 cases a<;>simp[Builtin.clear_,run_underlying hu]
theorem M5{w w':World}{T e ty:TypeId}(hu:P.underlying T=some (.slice e)){i:TypeInfo}{z:Value}(hi0:P.info? e=some i)(hz:i.zero=some z)(a:Addr){n:Nat}(hn:0<n)(c:Nat)
  (h:(storeCells a (Builtin.zeroCells z.cells n).toList).run P w = .ok () w'):(Builtin.clear_ #[T] ty #[.slice (some a) n c]).run P w = .ok (.tuple #[]) w':=by
 obtain⟨m,rfl⟩:∃ m,n=m+1:=⟨n-1,by omega⟩
 simp[Builtin.clear_,run_underlying hu,BZ hi0 hz,h]
theorem AXK{w:World}{F:Nat→Prop}{t:Ty}{d:t.den}{z:List Value}(h:Dat w F t d z):∀ u∈z,u.oneCell'=true:=fun u hu=>Dat.HP t h u hu
theorem AQA(args:Array Operand)(ts:Array TypeId):Claim P E (.call { callee:=.builtin .clear,args:=args,argTypes:=ts }):=by
 intro R ty ρ H fz slot k r h
 simp only[evalOp]at h
 split at h
 ·rename_i x T ha hts
  obtain rfl:=Aa1 ha
  obtain rfl:=Aa1 hts
  split at h
  ·rename_i e t hsl
   split at h
   ·rename_i zz hz
    obtain⟨hu,hty0,hpos⟩:=Bt hsl
    obtain⟨t',cs'⟩:=zz
    obtain⟨hty',hcs',i,z,hi0,hz0,hok,hsz,hza⟩:=Bl hz
    subst hcs'
    have:t'=t:=by rw[hty0]at hty';exact(AkR hty').symm
    subst this
    have hcells:∀ k,(Builtin.zeroCells z.cells k).toList=(List.replicate k z.cells.toList).flatten:=Cp z.cells
    split at h
    ·rename_i et hx
     refine⟨_,_,h,fun R' k'=>by simp only[evalOp,hsl,hz,hx],A4 fun w F m ρc o hop hty hi hr => ?_⟩
     have hrx:=hr x
     rw[hx]at hrx
     unfold Rep at hrx
     exact⟨_,w,F,m,IV hop hrx (Hz hu _ _),Ap.refl hi,by unfold Rep;trivial⟩
    ·rename_i id hx
     split at h
     ·rename_i e' t2 xs ho
      split at h
      ·rename_i hun
       refine⟨_,_,h,fun R' k'=>by simp only[evalOp,hsl,hz,hx,ho,hun],A4 fun w F m ρc o hop hty hi hr => ?_⟩
       simp only[AjK,AjJ]at hun
       obtain⟨hun,ht⟩:=hun
       subst ht
       have hzd:=Bb (w:=w) (F:=F) t' _ hok
       have hrx:=hr x
       rw[hx]at hrx
       unfold Rep at hrx
       rw[ho]at hrx
       obtain⟨_,hob⟩:=hi.obj id _ ho
       have none_:xs=[]→∀ a c,ρc x = .slice a 0 c→∃ u w' F' m',(execOp ρc o).run P w = .ok (.value u) w'∧Ap w F m H fz w' F' m' (CS { objs:=[(id,.arr e' t' (Bm 0 xs.length t'.zero xs))] } H) (GN { objs:=[(id,.arr e' t' (Bm 0 xs.length t'.zero xs))] } fz) ∧
         Rep w' F' m' (CS { objs:=[(id,.arr e' t' (Bm 0 xs.length t'.zero xs))] } H) .junk u:=by
        intro hxs a c e1
        refine⟨_,w,F,m,IV hop e1 (Hz hu _ _),?_,by unfold Rep;trivial⟩
        have:Bm 0 xs.length t'.zero xs=xs:=by rw[hxs];rfl
        rw[this]
        have hs:CS { objs:=[(id,.arr e' t' xs)] } H=H:=AMq ho
        rw[hs]
        exact Ap.refl hi
       cases hm:m id with
       |none=>
        rw[hm]at hrx hob
        obtain⟨a,e1⟩:=hrx
        simp only at hob
        exact none_ hob a 0 e1
       |some p=>
        obtain⟨b,cap⟩:=p
        rw[hm]at hrx
        simp only[A8]at hrx
        rcases Akb xs.length with hl|hl
        ·exact none_ (Ajg hl) (some ⟨b,0,none⟩) cap (by rw[hrx,hl])
        ·obtain⟨w',hst,hg⟩:=AHj (P:=P) hi ho hun hm (off:=0) (n:=xs.length) (by omega) hzd (AXK hzd) (hcells xs.length)
         rw[Als]at hst
         exact⟨_,w',F,m,IV hop hrx (M5 hu hi0 hz0 _ hl _ hst),hg,by unfold Rep;trivial⟩
      ·cases h
     ·cases h
    ·rename_i id off n hx
     split at h
     ·rename_i e' t2 xs ho
      split at h
      ·rename_i hun
       refine⟨_,_,h,fun R' k'=>by simp only[evalOp,hsl,hz,hx,ho,hun],A4 fun w F m ρc o hop hty hi hr => ?_⟩
       simp only[AjK,AjJ]at hun
       obtain⟨hun,ht⟩:=hun
       subst ht
       have hzd:=Bb (w:=w) (F:=F) t' _ hok
       have hrx:=hr x
       rw[hx]at hrx
       unfold Rep at hrx
       rw[ho]at hrx
       obtain⟨hle,hrx⟩:=hrx
       obtain⟨_,hob⟩:=hi.obj id _ ho
       have none_:n=0→∀ a c,ρc x = .slice a n c→∃ u w' F' m',(execOp ρc o).run P w = .ok (.value u) w'∧Ap w F m H fz w' F' m' (CS { objs:=[(id,.arr e' t' (Bm off n t'.zero xs))] } H) (GN { objs:=[(id,.arr e' t' (Bm off n t'.zero xs))] } fz) ∧
         Rep w' F' m' (CS { objs:=[(id,.arr e' t' (Bm off n t'.zero xs))] } H) .junk u:=by
        intro hxs a c e1
        subst hxs
        refine⟨_,w,F,m,IV hop e1 (Hz hu _ _),?_,by unfold Rep;trivial⟩
        rw[APw]
        have hs:CS { objs:=[(id,.arr e' t' xs)] } H=H:=AMq ho
        rw[hs]
        exact Ap.refl hi
       cases hm:m id with
       |none=>
        rw[hm]at hrx hob
        obtain⟨a,e1⟩:=hrx
        simp only at hob
        subst hob
        exact none_ (by simp at hle;omega) a 0 e1
       |some p=>
        obtain⟨b,cap⟩:=p
        rw[hm]at hrx hob
        obtain⟨vs,row,o1,o2,_⟩:=hob
        obtain⟨a,e1,e2⟩:=hrx
        rcases Akb n with hl|hl
        ·exact none_ hl a _ e1
        ·have ha:=e2 (by omega)
         subst ha
         obtain⟨w',hst,hg⟩:=AHj (P:=P) hi ho hun hm (off:=off) (n:=n) hle hzd (AXK hzd) (hcells n)
         exact⟨_,w',F,m,IV hop e1 (M5 hu hi0 hz0 _ hl _ hst),hg,by unfold Rep;trivial⟩
      ·cases h
     ·cases h
    ·cases h
   ·cases h
  ·cases h
 ·cases h
end
end Go.Pev
end
section
namespace Go.Pev
open Go.RowKit
section
variable {P:Program}
def Cr:(t:Ty)→t.den→List Value
 |.unit,_=>[]
 |.bool,b=>[.bool b]
 |.int k,n=>[.int k n]
 |.prod a b,d=>Cr a d.1++Cr b d.2
 |.slice _,_=>[]
 |.arr _ _,_=>[]
 |.nul _,_=>[]
 |.mapi _ _,_=>[]
def CE(t:Ty)(d:t.den):Value:=match t,d with
 |.int k,n=>.int k n
 |t,d=>.agg (Cr t d).toArray
structure Aa5(P:Program)(kt:TypeId)(t:Ty):Prop where
 rep:∀ (w:World) (F:Nat→Prop) (d:t.den) (v:Value),Bg w F t d v↔v=CE t d
 check:∀ (w:World) (b:Bool) (d:t.den),(Instr.checkKey b 10000 kt (CE t d)).run P w = .ok () w
 stays:∀ (w:World) (d:t.den),(Instr.keyThatStays (CE t d) (CE t d)).run P w = .ok (CE t d) w
 find:∀ (w:World) (F:Nat→Prop) (b:Ty) (key:t.den) (es:List (t.den×b.den)) (ms:List MapEntry),Iu w F t b es ms →
  (@D9 _ _ (decDen t) es key=none∧@AP _ _ (decDen t) es key=none∧(Instr.findKey kt (CE t key) ms).run P w = .ok none w) ∨
  (∃ x n me,@D9 _ _ (decDen t) es key=some n∧@AP _ _ (decDen t) es key=some x∧(Instr.findKey kt (CE t key) ms).run P w = .ok (some (n,me.val)) w∧ms[n]? = some me∧Bg w F b x me.val∧me.key=CE t key)
theorem Aa5.store{kt:TypeId}{t:Ty}(hK:Aa5 P kt t){w:World}{F:Nat→Prop}{b:Ty}(key:t.den)(val:b.den)(v:Value)(hv:Bg w F b val v):∀ {es:List (t.den×b.den)} {ms:List MapEntry},Iu w F t b es ms →
  (∀ clock,@D9 _ _ (decDen t) es key=none→Iu w F t b (@Af _ _ (decDen t) es key val) (ms++[{ key:=CE t key,val:=v,born:=clock }])) ∧
  (∀ n,@D9 _ _ (decDen t) es key=some n→Iu w F t b (@Af _ _ (decDen t) es key val) (ms.modify n fun e=>{ e with key:=CE t key,val:=v })):=by
 haveI:=decDen t
 intro es
 induction es with
 |nil=>
  rintro ms rfl
  exact⟨fun clock _=>⟨_,[],rfl,⟨(hK.rep w F key _).2 rfl,hv⟩,rfl⟩,fun n h=>by simp[D9]at h⟩
 |cons e es ih=>
  rintro ms ⟨me0,ms',rfl,⟨h1,h2⟩,h3⟩
  obtain⟨a,x⟩:=e
  obtain⟨ih1,ih2⟩:=ih h3
  by_cases hak:a=key
  ·subst hak
   refine⟨fun clock h=>by simp[D9]at h,fun n h => ?_⟩
   simp only[D9,Ajw,AjH]at h
   subst h
   simp only[Af,Ajw,List.modify_zero_cons]
   exact⟨_,ms',rfl,⟨(hK.rep w F a _).2 rfl,hv⟩,h3⟩
  ·simp only[Af,hak,Ajc,D9]
   refine⟨fun clock h => ?_,fun n h => ?_⟩
   ·rw[AmO]at h
    exact⟨me0,_,rfl,⟨h1,h2⟩,ih1 clock h⟩
   ·rw[AjX]at h
    obtain⟨n',h',rfl⟩:=h
    rw[List.modify_succ_cons]
    exact⟨me0,_,rfl,⟨h1,h2⟩,ih2 n' h'⟩
theorem Rn{kt:TypeId}{j:IntKind}(hu:P.underlying kt=some (.int j)):Aa5 P kt (.int j):=by
 have hrep:∀ (w:World) (F:Nat→Prop) (d:Int) (v:Value),Bg w F (.int j) d v↔v = .int j d:=by
  intro w F d v
  show Dat w F (.int j) d [v]↔_
  simp[Dat]
 refine⟨hrep,fun w b d => ?_,fun w d => ?_,fun w F b key es ms h => ?_⟩
 ·have gen:∀ n,(Instr.checkKey b (n+1) kt (.int j d)).run P w = .ok () w:=fun n=>by simp[Instr.checkKey,run_underlying hu]
  exact gen 9999
 ·have gen:∀ n,Instr.sameBits n (.int j d) (.int j d)=true:=fun n=>by cases n<;>simp[Instr.sameBits]
  show(Instr.keyThatStays (.int j d) (.int j d)).run P w=_
  simp[Instr.keyThatStays,gen]
  rfl
 ·have hfk:∀ r,Instr.findNow (.int j) (.int j key) ms 0=some r→(Instr.findKey kt (.int j key) ms).run P w = .ok r w:=by
   intro r hr'
   simp[Instr.findKey,run_underlying hu,hr']
  have gen:∀ (es:List (Int×b.den)) (ms:List MapEntry) (i:Nat),Iu w F (.int j) b es ms →
    (D9 (α:=Int) es key=none∧AP (α:=Int) es key=none∧Instr.findNow (.int j) (.int j key) ms i=some none) ∨
    (∃ x n me,D9 (α:=Int) es key=some n∧AP (α:=Int) es key=some x∧Instr.findNow (.int j) (.int j key) ms i=some (some (i+n,me.val))∧ms[n]? = some me∧Bg w F b x me.val∧me.key = .int j key):=by
   intro es
   induction es with
   |nil=>rintro ms i rfl;exact .inl ⟨rfl,rfl,rfl⟩
   |cons e es ih=>
    rintro ms i ⟨me,ms',rfl,⟨h1,h2⟩,h3⟩
    obtain⟨a,x⟩:=e
    have hk:=(hrep w F a _).1 h1
    simp only at h2
    by_cases hak:a=key
    ·subst hak
     refine .inr ⟨x,0,me,by simp[D9],by simp[AP],?_,rfl,h2,hk⟩
     simp[Instr.findNow,Instr.sameNow,hk]
    ·have hfn:Instr.findNow (.int j) (.int j key) (me::ms') i=Instr.findNow (.int j) (.int j key) ms' (i+1):=by
      have:(key==a)=false:=by simp;exact fun h=>hak h.symm
      simp[Instr.findNow,Instr.sameNow,hk,this]
     rcases ih ms' (i+1) h3 with⟨q0,q1,q2⟩|⟨y,n,me',q0,q1,q2,q3,q4,q5⟩
     ·exact .inl ⟨by simp[D9,hak,q0],by simp[AP,hak,q1],by rw[hfn];exact q2⟩
     ·exact .inr ⟨y,n+1,me',by simp[D9,hak,q0],by simp[AP,hak,q1],by rw[hfn,q2,show i+1+n=i+(n+1)from by omega],by simpa using q3,q4,q5⟩
  rcases gen es ms 0 h with⟨q0,q1,q2⟩|⟨x,n,me,q0,q1,q2,q3,q4,q5⟩
  ·exact .inl ⟨q0,q1,hfk _ q2⟩
  ·rw[AkI]at q2
   exact .inr ⟨x,n,me,q0,q1,hfk _ q2,q3,q4,q5⟩
theorem SN{w:World}{F:Nat→Prop}:∀ (t:Ty) {n:List Bool},kinds? t=some n→∀ (d:t.den) (cs:List Value),Dat w F t d cs↔cs=Cr t d
 |.unit,_,_,d,cs=>Iff.rfl
 |.prod (.int k) r,n,h,d,cs=>by
  simp only[kinds?,AjX]at h
  obtain⟨n',h',rfl⟩:=h
  constructor
  ·rintro⟨c1,c2,rfl,h1,h2⟩
   rw[(SN r h' d.2 c2).1 h2]
   have h1:c1=[.int k d.1]:=h1
   rw[h1];rfl
  ·rintro rfl
   exact⟨[.int k d.1],Cr r d.2,rfl,rfl,(SN r h' d.2 _).2 rfl⟩
 |.prod .bool r,n,h,d,cs=>by
  simp only[kinds?,AjX]at h
  obtain⟨n',h',rfl⟩:=h
  constructor
  ·rintro⟨c1,c2,rfl,h1,h2⟩
   rw[(SN r h' d.2 c2).1 h2]
   have h1:c1=[.bool d.1]:=h1
   rw[h1];rfl
  ·rintro rfl
   exact⟨[.bool d.1],Cr r d.2,rfl,rfl,(SN r h' d.2 _).2 rfl⟩
 |.prod .unit _,_,h,_,_=>by simp[kinds?]at h
 |.prod (.slice _) _,_,h,_,_=>by simp[kinds?]at h
 |.prod (.prod _ _) _,_,h,_,_=>by simp[kinds?]at h
 |.prod (.arr _ _) _,_,h,_,_=>by simp[kinds?]at h
 |.bool,_,h,_,_=>by simp[kinds?]at h
 |.int _,_,h,_,_=>by simp[kinds?]at h
 |.slice _,_,h,_,_=>by simp[kinds?]at h
 |.arr _ _,_,h,_,_=>by simp[kinds?]at h
theorem WB:∀ (t:Ty) {n:List Bool},kinds? t=some n→∀ (d d':t.den),BL n (BS t d) (BS t d')=some (@decide (d=d') (decDen t d d'))
 |.unit,n,h,d,d'=>by
  simp only[kinds?,AjH]at h
  subst h
  cases d;cases d'
  simp[BS,BL]
 |.prod (.int k) r,n,h,d,d'=>by
  simp only[kinds?,AjX]at h
  obtain⟨n',h',rfl⟩:=h
  obtain⟨a,x⟩:=d
  obtain⟨b,y⟩:=d'
  have:=WB r h' x y
  simp only[BS,Ald,BL,AjV,this,B9]
  congr 1
  by_cases h1:a=b
  ·subst h1
   by_cases h2:x=y
   ·subst h2;simp
   ·simp[h2]
  ·simp[h1]
 |.prod .bool r,n,h,d,d'=>by
  simp only[kinds?,AjX]at h
  obtain⟨n',h',rfl⟩:=h
  obtain⟨a,x⟩:=d
  obtain⟨b,y⟩:=d'
  have:=WB r h' x y
  simp only[BS,Ald,BL,this]
  congr 1
  by_cases h1:a=b
  ·subst h1
   by_cases h2:x=y
   ·subst h2;simp
   ·simp[h2]
  ·simp[h1]
 |.prod .unit _,_,h,_,_=>by simp[kinds?]at h
 |.prod (.slice _) _,_,h,_,_=>by simp[kinds?]at h
 |.prod (.prod _ _) _,_,h,_,_=>by simp[kinds?]at h
 |.prod (.arr _ _) _,_,h,_,_=>by simp[kinds?]at h
 |.bool,_,h,_,_=>by simp[kinds?]at h
 |.int _,_,h,_,_=>by simp[kinds?]at h
 |.slice _,_,h,_,_=>by simp[kinds?]at h
 |.arr _ _,_,h,_,_=>by simp[kinds?]at h
theorem QF:∀ (t:Ty) {n:List Bool},kinds? t=some n→∀ (d:t.den),∀ v∈Cr t d,(∃ k i,v = .int k i)∨∃ b,v = .bool b
 |.unit,_,_,d,v,hv=>by simp[Cr]at hv
 |.prod (.int k) r,n,h,d,v,hv=>by
  simp only[kinds?,AjX]at h
  obtain⟨n',h',rfl⟩:=h
  simp only[Cr,Ald,AjN]at hv
  rcases hv with rfl|hv
  ·exact .inl ⟨_,_,rfl⟩
  ·exact QF r h' d.2 v hv
 |.prod .bool r,n,h,d,v,hv=>by
  simp only[kinds?,AjX]at h
  obtain⟨n',h',rfl⟩:=h
  simp only[Cr,Ald,AjN]at hv
  rcases hv with rfl|hv
  ·exact .inr ⟨_,rfl⟩
  ·exact QF r h' d.2 v hv
 |.prod .unit _,_,h,_,_,_=>by simp[kinds?]at h
 |.prod (.slice _) _,_,h,_,_,_=>by simp[kinds?]at h
 |.prod (.prod _ _) _,_,h,_,_,_=>by simp[kinds?]at h
 |.prod (.arr _ _) _,_,h,_,_,_=>by simp[kinds?]at h
 |.bool,_,h,_,_,_=>by simp[kinds?]at h
 |.int _,_,h,_,_,_=>by simp[kinds?]at h
 |.slice _,_,h,_,_,_=>by simp[kinds?]at h
 |.arr _ _,_,h,_,_,_=>by simp[kinds?]at h
theorem Ka{t:Ty}{n:List Bool}(h:kinds? t=some n)(d:t.den):CE t d = .agg (Cr t d).toArray∧t.isAgg=true:=by
 cases t<;>first|exact⟨rfl,rfl⟩|(simp[kinds?]at h)
end
end Go.Pev
end
section
namespace Go.Pev
open Go.RowKit
section
variable {P:Program}
theorem QG:∀ (t:Ty) {n:List Bool},kinds? t=some n→∀ (d:t.den),(Cr t d).length=n.length
 |.unit,n,h,d=>by simp only[kinds?,AjH]at h;subst h;rfl
 |.prod (.int k) r,n,h,d=>by
  simp only[kinds?,AjX]at h
  obtain⟨n',h',rfl⟩:=h
  simp[Cr,QG r h' d.2]
 |.prod .bool r,n,h,d=>by
  simp only[kinds?,AjX]at h
  obtain⟨n',h',rfl⟩:=h
  simp[Cr,QG r h' d.2]
 |.prod .unit _,_,h,_=>by simp[kinds?]at h
 |.prod (.slice _) _,_,h,_=>by simp[kinds?]at h
 |.prod (.prod _ _) _,_,h,_=>by simp[kinds?]at h
 |.prod (.arr _ _) _,_,h,_=>by simp[kinds?]at h
 |.bool,_,h,_=>by simp[kinds?]at h
 |.int _,_,h,_=>by simp[kinds?]at h
 |.slice _,_,h,_=>by simp[kinds?]at h
 |.arr _ _,_,h,_=>by simp[kinds?]at h
theorem ALJ{w:World}{T:TypeId}(h:M3 P T=true)(b:Bool)(n:Nat){v:Value}:(Instr.checkKey b (n+1) T v).run P w = .ok () w:=by
 rcases Bz h with⟨k,hk,_⟩|⟨hk,_⟩
 ·simp[Instr.checkKey,run_underlying hk]
 ·simp[Instr.checkKey,run_underlying hk]
theorem ALK{w:World}(b:Bool)(d:Nat)(xs:Array Value):∀ (fs:List Field) (i:Nat),Df P fs i=true→i+fs.length≤xs.size →
  (forIn fs PUnit.unit fun (f : Field) (_ : PUnit) => ((if f.name ≠ "_" then (part f.type xs f.offset >>= fun v => Instr.checkKey b (d + 1) f.type v >>= fun _ => pure (ForInStep.yield PUnit.unit)) else pure (ForInStep.yield PUnit.unit)) : Sem (ForInStep PUnit))).run P w = .ok PUnit.unit w := by
 intro fs
 induction fs with
 |nil=>intro i _ _;simp[Sem.run_pure]
 |cons f fs ih=>
  intro i hok hl
  simp only[Df,AjK,bne_iff_ne,AjJ]at hok
  obtain⟨hn,ho,hsc,hok⟩:=hok
  rw[AjR]at hl
  have hag:EE P f.type=some false:=by
   rcases Bz hsc with⟨k,hk,_⟩|⟨hk,_⟩<;>simp[EE,hk]
  have hlt:i<xs.size:=by omega
  have p1:(part f.type xs f.offset).run P w = .ok xs[i] w:=by
   rw[ho];simp[part,CT hag,hlt]
  have h3:=ih (i+1) hok (by omega)
  simp only[List.forIn_cons,Sem.run_bind,hn,ne_eq,not_false_eq_true,Ajw,p1,Result.andThen_ok,ALJ hsc,Sem.run_pure]
  exact h3
theorem AT8{kt:TypeId}{t:Ty}{n:List Bool}(hs:structEq P kt=some n)(hk:kinds? t=some n):Aa5 P kt t:=by
 obtain⟨fs,hu,hgt,hst,hok,hn⟩:=AE3 hs
 have hfo:P.fieldsOf kt=fs:=by simp[Program.fieldsOf,hu]
 have hrep:∀ (w:World) (F:Nat→Prop) (d:t.den) (v:Value),Bg w F t d v↔v=CE t d:=by
  intro w F d v
  obtain⟨e1,e2⟩:=Ka hk d
  unfold Bg
  rw[AjP e2,e1]
  constructor
  ·rintro⟨vs,rfl,h⟩
   have:=(SN t hk d _).1 h
   rw[← this]
  ·rintro rfl
   exact⟨_,rfl,(SN t hk d _).2 (by simp)⟩
 have hlen:∀ d:t.den,(Cr t d).length=fs.size:=by
  intro d
  rw[QG t hk d,hn,Aj6,AjZ]
 refine⟨hrep,fun w b d => ?_,fun w d => ?_,fun w F b key es ms h => ?_⟩
 ·rw[(Ka hk d).1]
  have:=fun m=>ALK (P:=P) (w:=w) b m (Cr t d).toArray fs.toList 0 hok (by rw[Ako,hlen,AjZ];omega)
  have gen:∀ m,(Instr.checkKey b (m+1+1) kt (.agg (Cr t d).toArray)).run P w = .ok () w:=by
   intro m
   rw[Instr.checkKey]
   simp only[Sem.run_bind,run_underlying hu,Result.andThen_ok]
   rw[← Array.forIn_toList,this m]
   rfl
  exact gen 9998
 ·rw[(Ka hk d).1]
  have gen:∀ m,Instr.sameBits (m+1) (.agg (Cr t d).toArray) (.agg (Cr t d).toArray)=true:=by
   intro m
   have hz:∀ l:List Value,(∀ v∈l,(∃ k i,v = .int k i)∨∃ b,v = .bool b)→((l.zip l).all fun p=>Instr.sameBits m p.1 p.2)=true:=by
    intro l
    induction l with
    |nil=>intro _;rfl
    |cons v l ih=>
     intro h
     rw[Alm,List.all_cons,ih (fun x hx=>h x (by simp[hx]))]
     rcases h v (by simp)with⟨k,i,rfl⟩|⟨b,rfl⟩
     ·cases m<;>simp[Instr.sameBits]
     ·cases m<;>simp[Instr.sameBits]
   simp only[Instr.sameBits,beq_self_eq_true,Ale]
   exact hz _ (QF t hk d)
  unfold Instr.keyThatStays
  rw[gen 9999]
  rfl
 ·have heq:∀ d d':t.den,(Op.equal kt (CE t d) (CE t d')).run P w = .ok (@decide (d=d') (decDen t d d')) w:=by
   intro d d'
   rw[(Ka hk d).1,(Ka hk d').1]
   unfold Op.equal Op.maxDepth
   rw[run_equalIn_agg w 9999 kt _ _ (by rw[hfo];exact hu) hst,hfo]
   have r:∀ x:t.den,Ad w F (fun _=>none) [] (BS t x) ((Cr t x).toArray.toList.drop 0):=fun x=>IU t ((SN t hk x _).2 (by simp))
   exact SH 9998 _ _ fs.toList 0 (BS t d) (BS t d') _ hok (r d) (r d') (by rw[← hn];exact WB t hk d d')
  have gen:∀ (es:List (t.den×b.den)) (ms:List MapEntry) (i:Nat),Iu w F t b es ms →
    (D9 es key=none∧AP es key=none∧(Instr.findAsking kt (CE t key) ms i).run P w = .ok none w) ∨
    (∃ x n me,D9 es key=some n∧AP es key=some x∧(Instr.findAsking kt (CE t key) ms i).run P w = .ok (some (i+n,me.val)) w∧ms[n]? = some me∧Bg w F b x me.val∧me.key=CE t key):=by
   intro es
   induction es with
   |nil=>rintro ms i rfl;exact .inl ⟨rfl,rfl,by simp[Instr.findAsking]⟩
   |cons e es ih=>
    rintro ms i ⟨me,ms',rfl,⟨h1,h2⟩,h3⟩
    obtain⟨a,x⟩:=e
    have hkk:=(hrep w F a _).1 h1
    simp only at h2
    have hq:=heq key a
    by_cases hak:a=key
    ·subst hak
     rw[AjG rfl]at hq
     refine .inr ⟨x,0,me,by simp[D9],by simp[AP],?_,rfl,h2,hkk⟩
     simp[Instr.findAsking,hkk,hq]
    ·rw[AjF (fun h=>hak h.symm)]at hq
     have hfn:(Instr.findAsking kt (CE t key) (me::ms') i).run P w=(Instr.findAsking kt (CE t key) ms' (i+1)).run P w:=by
      simp[Instr.findAsking,hkk,hq]
     rcases ih ms' (i+1) h3 with⟨q0,q1,q2⟩|⟨y,n,me',q0,q1,q2,q3,q4,q5⟩
     ·exact .inl ⟨by simp[D9,hak,q0],by simp[AP,hak,q1],by rw[hfn];exact q2⟩
     ·exact .inr ⟨y,n+1,me',by simp[D9,hak,q0],by simp[AP,hak,q1],by rw[hfn,q2,show i+1+n=i+(n+1)from by omega],by simpa using q3,q4,q5⟩
  have hfk:∀ r,(Instr.findAsking kt (CE t key) ms).run P w = .ok r w→(ms=[]→r=none)→(Instr.findKey kt (CE t key) ms).run P w = .ok r w:=by
   intro r hr' hnil
   cases ms with
   |nil=>simp[Instr.findKey,run_underlying hu,Instr.findNow,hnil rfl]
   |cons me ms=>
    simp only[Instr.findKey,Sem.run_bind,run_underlying hu,Result.andThen_ok,Instr.findNow,Instr.sameNow]
    exact hr'
  rcases gen es ms 0 h with⟨q0,q1,q2⟩|⟨x,n,me,q0,q1,q2,q3,q4,q5⟩
  ·exact .inl ⟨q0,q1,hfk _ q2 (fun _=>rfl)⟩
  ·rw[AkI]at q2
   exact .inr ⟨x,n,me,q0,q1,hfk _ q2 (fun e=>by subst e;simp at q3),q3,q4,q5⟩
theorem AFU{T:TypeId}{t:Ty}(h:Rh P T=some t):∃ e k,P.underlying T=some (.array 2 e)∧P.underlying e=some (.int k)∧BJ P e=some 1∧t = .prod (.int k) (.prod (.int k) .unit):=by
 unfold Rh at h
 split at h
 ·rename_i n e hu
  split at h
  ·rename_i k hn he hs
   rw[AjJ]at hn hs
   subst hn
   cases h
   exact⟨e,k,hu,he,hs,rfl⟩
  ·cases h
 ·cases h
theorem Adk{kt:TypeId}{t:Ty}(hp:Rh P kt=some t):Aa5 P kt t:=by
 obtain⟨e,j,hu,he,hs,rfl⟩:=AFU hp
 obtain⟨i0,hi0,hi1⟩:=BD hs
 have hk:kinds? (.prod (.int j) (.prod (.int j) .unit))=some [true,true]:=rfl
 have hag:EE P e=some false:=by simp[EE,he]
 have hsz:∀ w,(sizeOf e).run P w = .ok 1 w:=fun w=>by rw[run_sizeOf hi0,hi1]
 have hkv:∀ d:(Ty.prod (.int j) (.prod (.int j) .unit)).den,CE (.prod (.int j) (.prod (.int j) .unit)) d = .agg #[.int j d.1,.int j d.2.1]:=fun d=>rfl
 have hrep:∀ (w:World) (F:Nat→Prop) (d:(Ty.prod (.int j) (.prod (.int j) .unit)).den) (v:Value),Bg w F (.prod (.int j) (.prod (.int j) .unit)) d v↔v=CE (.prod (.int j) (.prod (.int j) .unit)) d:=by
  intro w F d v
  obtain⟨e1,e2⟩:=Ka hk d
  unfold Bg
  rw[AjP e2,e1]
  constructor
  ·rintro⟨vs,rfl,h⟩
   have:=(SN _ hk d _).1 h
   rw[← this]
  ·rintro rfl
   exact⟨_,rfl,(SN _ hk d _).2 (by simp)⟩
 have hpart:∀ (w:World) (a b:Value),(part e #[a,b] 0).run P w = .ok a w∧(part e #[a,b] 1).run P w = .ok b w:=fun w a b=>by
  constructor<;>simp[part,CT hag]
 have hck1:∀ (w:World) (b:Bool) (n:Nat) (d:Int),(Instr.checkKey b (n+1) e (.int j d)).run P w = .ok () w:=fun w b n d=>by simp[Instr.checkKey,run_underlying he]
 refine⟨hrep,fun w b d => ?_,fun w d => ?_,fun w F b key es ms h => ?_⟩
 ·rw[hkv]
  have gen:∀ m,(Instr.checkKey b (m+1+1) kt (.agg #[.int j d.1,.int j d.2.1])).run P w = .ok () w:=by
   intro m
   rw[Instr.checkKey]
   simp only[Sem.run_bind,run_underlying hu,Result.andThen_ok]
   simp[Std.Legacy.Range.forIn_eq_forIn_range',Std.Legacy.Range.size,List.range',hsz,(hpart w _ _).1,(hpart w _ _).2,hck1]
  exact gen 9998
 ·rw[hkv]
  have gen:∀ m,Instr.sameBits (m+1) (.agg #[.int j d.1,.int j d.2.1]) (.agg #[.int j d.1,.int j d.2.1])=true:=by
   intro m
   cases m<;>simp[Instr.sameBits]
  unfold Instr.keyThatStays
  rw[gen 9999]
  rfl
 ·have heq:∀ d d':(Ty.prod (.int j) (.prod (.int j) .unit)).den,(Op.equal kt (CE (.prod (.int j) (.prod (.int j) .unit)) d) (CE (.prod (.int j) (.prod (.int j) .unit)) d')).run P w = .ok (@decide (d=d') (decDen (.prod (.int j) (.prod (.int j) .unit)) d d')) w:=by
   intro d d'
   rw[hkv,hkv]
   have hone:∀ (n:Nat) (a b:Int),(Op.equalIn (n+1) e (.int j a) (.int j b)).run P w = .ok (a==b) w:=fun n a b=>by simp[Op.equalIn,run_underlying he]
   have gen:∀ n,(Op.equalIn (n+1+1) kt (.agg #[.int j d.1,.int j d.2.1]) (.agg #[.int j d'.1,.int j d'.2.1])).run P w = .ok ((d.1==d'.1)&&(d.2.1==d'.2.1)) w:=by
    intro n
    rw[Op.equalIn]
    simp only[Sem.run_bind,run_underlying hu,Result.andThen_ok,hsz]
    simp only[Std.Legacy.Range.forIn_eq_forIn_range',Std.Legacy.Range.size,List.range',Als,Ak1]
    by_cases h1:d.1=d'.1
    ·by_cases h2:d.2.1=d'.2.1<;>simp[hone,(hpart w _ _).1,(hpart w _ _).2,h1,h2]
    ·simp[hone,(hpart w _ _).1,(hpart w _ _).2,h1]
   unfold Op.equal
   have:=gen 9998
   rw[show Op.maxDepth=9998+1+1 from rfl,this]
   congr 1
   rw[Alb,AjK,Akz,Akz]
   rw[Aku]
   obtain⟨a,b,⟨⟩⟩:=d
   obtain⟨a',b',⟨⟩⟩:=d'
   constructor
   ·rintro⟨h1,h2⟩
    have h1:a=a':=h1
    have h2:b=b':=h2
    rw[h1,h2]
   ·intro h
    cases h
    exact⟨rfl,rfl⟩
  have gen:∀ (es:List ((Ty.prod (.int j) (.prod (.int j) .unit)).den×b.den)) (ms:List MapEntry) (i:Nat),Iu w F (.prod (.int j) (.prod (.int j) .unit)) b es ms →
    (@D9 _ _ (decDen _) es key=none∧@AP _ _ (decDen _) es key=none∧(Instr.findAsking kt (CE (.prod (.int j) (.prod (.int j) .unit)) key) ms i).run P w = .ok none w) ∨
    (∃ x n me,@D9 _ _ (decDen _) es key=some n∧@AP _ _ (decDen _) es key=some x∧(Instr.findAsking kt (CE (.prod (.int j) (.prod (.int j) .unit)) key) ms i).run P w = .ok (some (i+n,me.val)) w∧ms[n]? = some me∧Bg w F b x me.val∧me.key=CE (.prod (.int j) (.prod (.int j) .unit)) key):=by
   intro es
   induction es with
   |nil=>rintro ms i rfl;exact .inl ⟨rfl,rfl,by simp[Instr.findAsking]⟩
   |cons e' es ih=>
    rintro ms i ⟨me,ms',rfl,⟨h1,h2⟩,h3⟩
    obtain⟨a,x⟩:=e'
    have hkk:=(hrep w F a _).1 h1
    simp only at h2
    have hq:=heq key a
    by_cases hak:a=key
    ·subst hak
     rw[AjG rfl]at hq
     refine .inr ⟨x,0,me,by simp[D9],by simp[AP],?_,rfl,h2,hkk⟩
     simp[Instr.findAsking,hkk,hq]
    ·rw[AjF (fun h=>hak h.symm)]at hq
     have hfn:(Instr.findAsking kt (CE (.prod (.int j) (.prod (.int j) .unit)) key) (me::ms') i).run P w=(Instr.findAsking kt (CE (.prod (.int j) (.prod (.int j) .unit)) key) ms' (i+1)).run P w:=by
      simp[Instr.findAsking,hkk,hq]
     rcases ih ms' (i+1) h3 with⟨q0,q1,q2⟩|⟨y,n,me',q0,q1,q2,q3,q4,q5⟩
     ·exact .inl ⟨by simp[D9,hak,q0],by simp[AP,hak,q1],by rw[hfn];exact q2⟩
     ·exact .inr ⟨y,n+1,me',by simp[D9,hak,q0],by simp[AP,hak,q1],by rw[hfn,q2,show i+1+n=i+(n+1)from by omega],by simpa using q3,q4,q5⟩
  have hfk:∀ r,(Instr.findAsking kt (CE (.prod (.int j) (.prod (.int j) .unit)) key) ms).run P w = .ok r w→(ms=[]→r=none)→(Instr.findKey kt (CE (.prod (.int j) (.prod (.int j) .unit)) key) ms).run P w = .ok r w:=by
   intro r hr' hnil
   cases ms with
   |nil=>simp[Instr.findKey,run_underlying hu,Instr.findNow,hnil rfl]
   |cons me ms=>
    simp only[Instr.findKey,Sem.run_bind,run_underlying hu,Result.andThen_ok,Instr.findNow,Instr.sameNow]
    exact hr'
  rcases gen es ms 0 h with⟨q0,q1,q2⟩|⟨x,n,me,q0,q1,q2,q3,q4,q5⟩
  ·exact .inl ⟨q0,q1,hfk _ q2 (fun _=>rfl)⟩
  ·rw[AkI]at q2
   exact .inr ⟨x,n,me,q0,q1,hfk _ q2 (fun e=>by subst e;simp at q3),q3,q4,q5⟩
theorem Ro{kt:TypeId}{t:Ty}(h:Xo P kt=some t):Aa5 P kt t:=by
 unfold Xo at h
 split at h
 ·rename_i t' hi
  cases h
  unfold Adm at hi
  split at hi
  ·rename_i k hu
   cases hi
   exact Rn hu
  ·cases hi
 ·split at h
  ·rename_i n t' hs ht
   split at h
   ·rename_i hd
    cases h
    exact AT8 hs (AlT hd)
   ·cases h
  ·exact Adk h
end
end Go.Pev
end
section
namespace Go.Pev
open Go.RowKit
section
variable {P:Program} {E:Env}
theorem AVC(hE:∀ g,AR P g (E.spec g))(f:Operand)(args:Array Operand)(ts:Array TypeId):Claim P E (.call { callee:=.value f,args:=args,argTypes:=ts }):=by
 intro R ty ρ H fz slot k r h
 simp only[evalOp]at h
 split at h
 ·rename_i g caps hf
  obtain⟨v,e,h1,h2,h3,h4⟩:=hE g R _ H fz slot k r h
  refine⟨v,e,h1,fun R' k'=>by simp only[evalOp,hf];exact h2 R' k',?_⟩
  intro w F m a o next Q hop hty hi hr hn
  have hrf:=hr f
  rw[hf]at hrf
  unfold Rep at hrf
  obtain⟨cs,e1,e2⟩:=hrf
  have hargs:Ad w F m H (args.toList.map ρ++caps) ((args.map a.eval++cs).toList):=by
   rw[AlI,Akj]
   exact G2 (DS (by simp) fun i c v hc hv=>by
    rw[Ajq]at hc hv
    cases hx:args.toList[i]? with
    |none=>rw[hx]at hc;cases hc
    |some x=>
     rw[hx]at hc hv
     cases hc;cases hv
     exact hr x) e2
  have hcall:=h4 w F m _ hi hargs
  rw[AlF]at hcall
  unfold Oper.wp
  have hrun:(execOp a.eval o).run P w = .ok (.enter g (args.map a.eval++cs)) w:=by
   simp[execOp,hop,resolve,e1,Deferred.ofValue,invoke,h3 _ w]
  rw[hrun]
  exact hcall.mono fun en w' ⟨u,hen,F',m',hg,hrep⟩=>by
   subst hen
   exact hn u w' F' m' hg hrep
 ·rename_i g caps hf
  obtain⟨v,e,h1,h2,h3,h4⟩:=hE g R _ H fz slot k r h
  refine⟨v,e,h1,fun R' k'=>by simp only[evalOp,hf];exact h2 R' k',?_⟩
  intro w F m a o next Q hop hty hi hr hn
  have hrf:=hr f
  rw[hf]at hrf
  unfold Rep at hrf
  obtain⟨cs,e1,e2⟩:=hrf
  have hargs:Ad w F m H (caps++args.toList.map ρ) ((cs++args.map a.eval).toList):=by
   rw[AlI,Akj]
   exact G2 e2 (DS (by simp) fun i c v hc hv=>by
    rw[Ajq]at hc hv
    cases hx:args.toList[i]? with
    |none=>rw[hx]at hc;cases hc
    |some x=>
     rw[hx]at hc hv
     cases hc;cases hv
     exact hr x)
  have hcall:=h4 w F m _ hi hargs
  rw[AlF]at hcall
  unfold Oper.wp
  have hrun:(execOp a.eval o).run P w = .ok (.enter g (cs++args.map a.eval)) w:=by
   simp[execOp,hop,resolve,e1,Deferred.ofValue,invoke,h3 _ w]
  rw[hrun]
  exact hcall.mono fun en w' ⟨u,hen,F',m',hg,hrep⟩=>by
   subst hen
   exact hn u w' F' m' hg hrep
 ·cases h
theorem ARM{T:TypeId}(h:AV1 P T=true):P.underlying T=some .string:=by
 unfold AV1 at h
 split at h
 ·assumption
 ·cases h
theorem ALL{T:TypeId}(h:ZG P T=true):∃ e,P.underlying T=some (.slice e)∧P.underlying e=some (.int .u8):=by
 unfold ZG at h
 split at h
 ·rename_i e hu
  split at h
  ·rename_i hu';exact⟨e,hu,hu'⟩
  ·cases h
 ·cases h
theorem ASA{w:World}{F:Nat→Prop}:∀ {xs:List Int} {row:List Value},rows (Dat w F (.int .u8)) xs row→row=xs.map (Value.int .u8):=by
 intro xs
 induction xs with
 |nil=>rintro row rfl;rfl
 |cons x xs ih=>
  rintro row ⟨c1,c2,rfl,h1,h2⟩
  rw[ih h2]
  have h1:c1=[.int .u8 x]:=by simpa [Dat]using h1
  rw[h1];rfl
theorem ASb:∀ (xs:List Int) (s:ByteArray),bytesOf (xs.foldl (fun r n=>r.push (UInt8.ofNat n.toNat)) s)=bytesOf s++ADU xs:=by
 intro xs
 induction xs with
 |nil=>intro s;simp[ADU]
 |cons x xs ih=>
  intro s
  rw[Ajt,ih]
  simp[bytesOf,ADU,ByteArray.push]
theorem Ael{S T:TypeId}{x:Operand}{w:World}{F:Nat→Prop}{m:Mp}{H:List Ob}{fz:List Bool}{v:AV}{xs:List Int}{fr:List Nat}{ρc:Operand→Value}{o:Oper}(hop:o.op = .convert S T x)
  (hs:ZG P S=true) (hd:AV1 P T=true) (hi:HI w F m H fz) (hx:Eh H (.slice (.int .u8)) v=some (xs,fr)) (hr:Rep w F m H v (ρc x)) :
  ∃ u,(execOp ρc o).run P w = .ok (.value u) w∧Rep w F m H (.str (ADU xs)) u:=by
 obtain⟨e,h1,h2⟩:=ALL hs
 have h3:=ARM hd
 obtain⟨a,cap,e1,hle,hne,news,hrows,hcell⟩:=Dk hi hx hr
 cases a with
 |none=>
  have hxs:xs=[]:=by
   cases xs with
   |nil=>rfl
   |cons a b=>exact absurd (hne (by simp)) (by simp)
  subst hxs
  refine⟨.string ByteArray.empty,?_,?_⟩
  ·simp[execOp,hop,e1,run_convert_bytes_string w S T e none _ _ h1 h2 h3,Conv.bytesToString]
  ·unfold Rep;exact⟨_,rfl,rfl⟩
 |some ad=>
  have hn:=ASA hrows
  subst hn
  have hl:(Go.loadCells ad xs.length).run P w = .ok (xs.map (Value.int .u8)).toArray w:=by
   have:=run_loadCells_list (P:=P) w ad (xs.map (Value.int .u8)) (fun j v hj=>hcell ad rfl j v hj)
   simpa using this
  refine⟨.string (xs.foldl (fun r n=>r.push (UInt8.ofNat n.toNat)) ByteArray.empty),?_,?_⟩
  ·simp[execOp,hop,e1,run_convert_bytes_string w S T e (some ad) _ _ h1 h2 h3,run_bytesToString w ad _ cap xs hl]
  ·unfold Rep;exact⟨_,rfl,(ASb _ _).trans (Ajs _)⟩
theorem AFz(S T:TypeId)(x:Operand):Claim P E (.convert S T x):=by
 intro R ty ρ H fz slot k r h
 simp only[evalOp]at h
 split at h
 ·rename_i j' n j hx hs hk
  refine⟨_,_,h,fun R' k'=>by simp only[evalOp,hx,hs,hk],AW fun w F m ρc o hop hty hi hr=>⟨.int j (j.wrap n),?_,A1 _ _⟩⟩
  have e1:=BA (hx▸hr x)
  obtain⟨d,hd⟩:=Aki.1 hs
  simp[execOp,hop,e1,convert,run_underlying hd,run_underlying (Gx hk),Conv.intToInt]
 ·rename_i v b1 b2 hne
  split at h
  ·rename_i hs hd
   split at h
   ·rename_i xs fr hx
    refine⟨_,_,h,fun R' k' => ?_,AW fun w F m ρc o hop hty hi hr=>Ael hop hs hd hi hx (hr x)⟩
    simp only[evalOp]
    simp only[hs,hd,hx]
   ·cases h
  ·cases h
theorem RX{w:World}{F:Nat→Prop}{k:IntKind}{n:Int}{v:Value}(h:Bg w F (.int k) n v):v = .int k n:=by
 unfold Bg at h
 have h:Dat w F (.int k) n [v]:=h
 simpa [Dat]using h
theorem Bf{w:World}{r:Nat}{ms:Array MapEntry}{clock:Nat}(h:w.heap[r]? = some (.map ms clock)):(getObj r).run P w = .ok (.map ms clock) w:=by
 simp[getObj,Sem.run,h]
theorem JL{kt:TypeId}{j:IntKind}(hu:P.underlying kt=some (.int j)){key:Int}{ms:List MapEntry}{w:World}{r:Option (Nat×Value)}(h:Instr.findNow (.int j) (.int j key) ms 0=some r):(Instr.findKey kt (.int j key) ms).run P w = .ok r w:=by
 simp[Instr.findKey,run_underlying hu,h]
theorem AHT{kt:TypeId}{j:IntKind}(hu:P.underlying kt=some (.int j)){w:World}(key:Int){ks:List Int}{ms:Array MapEntry}(h:ms.toList.map (·.key)=ks.map (Value.int j)):
  (C2 ks key=ks.length∧(Instr.findKey kt (.int j key) ms.toList).run P w = .ok none w) ∨
  (∃ me,C2 ks key<ks.length∧ms.toList[C2 ks key]? = some me∧me.key = .int j key∧ks[C2 ks key]? = some key∧(Instr.findKey kt (.int j key) ms.toList).run P w = .ok (some (C2 ks key,me.val)) w):=by
 have gen:∀ (ks:List Int) (ms:List MapEntry) (i:Nat),ms.map (·.key)=ks.map (Value.int j) →
   (C2 ks key=ks.length∧Instr.findNow (.int j) (.int j key) ms i=some none) ∨
   (∃ me,C2 ks key<ks.length∧ms[C2 ks key]? = some me∧me.key = .int j key∧ks[C2 ks key]? = some key∧Instr.findNow (.int j) (.int j key) ms i=some (some (i+C2 ks key,me.val))):=by
  intro ks
  induction ks with
  |nil=>
   intro ms i h
   have:ms=[]:=by simpa using h
   subst this
   exact .inl ⟨rfl,rfl⟩
  |cons a ks ih=>
   intro ms i h
   cases ms with
   |nil=>simp at h
   |cons me ms=>
    simp only[Ajr,Aje]at h
    obtain⟨hk,h⟩:=h
    by_cases hak:a=key
    ·subst hak
     refine .inr ⟨me,by simp[C2],by simp[C2],hk,by simp[C2],?_⟩
     simp[Instr.findNow,Instr.sameNow,hk,C2]
    ·have hfn:Instr.findNow (.int j) (.int j key) (me::ms) i=Instr.findNow (.int j) (.int j key) ms (i+1):=by
      have:(key==a)=false:=by simp;exact fun h=>hak h.symm
      simp[Instr.findNow,Instr.sameNow,hk,this]
     have hp:C2 (a::ks) key=C2 ks key+1:=by simp[C2,hak]
     rcases ih ms (i+1) h with⟨q0,q2⟩|⟨me',q0,q1,q2,q3,q4⟩
     ·exact .inl ⟨by rw[hp,q0];rfl,by rw[hfn];exact q2⟩
     ·exact .inr ⟨me',by rw[hp];simpa using q0,by rw[hp];simpa using q1,q2,by rw[hp];simpa using q3,by rw[hfn,q4,hp,show i+1+C2 ks key=i+(C2 ks key+1)from by omega]⟩
 rcases gen ks ms.toList 0 h with⟨q0,q2⟩|⟨me,q0,q1,q2,q3,q4⟩
 ·exact .inl ⟨q0,JL hu q2⟩
 ·rw[AkI]at q4
  exact .inr ⟨me,q0,q1,q2,q3,JL hu q4⟩
theorem AaP{kt:TypeId}{j:IntKind}(hu:P.underlying kt=some (.int j)){w:World}(key:Int){β:Type}{V:β→Value→Prop}{es:List (Int×β)}{ms:List MapEntry}(h:ADM (fun d v=>v = .int j d) V es ms):
  (AP es key=none∧(Instr.findKey kt (.int j key) ms).run P w = .ok none w) ∨
  (∃ (x:β) (n:Nat) (me:MapEntry),AP es key=some x∧(Instr.findKey kt (.int j key) ms).run P w = .ok (some (n,me.val)) w∧V x me.val):=by
 have gen:∀ (es:List (Int×β)) (ms:List MapEntry) (i:Nat),ADM (fun d v=>v = .int j d) V es ms →
   (AP es key=none∧Instr.findNow (.int j) (.int j key) ms i=some none) ∨
   (∃ (x:β) (n:Nat) (me:MapEntry),AP es key=some x∧Instr.findNow (.int j) (.int j key) ms i=some (some (n,me.val))∧V x me.val):=by
  intro es
  induction es with
  |nil=>rintro ms i rfl;exact .inl ⟨rfl,rfl⟩
  |cons e es ih=>
   rintro ms i ⟨me,ms',rfl,hk,hv,h3⟩
   obtain⟨a,x⟩:=e
   have hk:me.key = .int j a:=hk
   by_cases hak:a=key
   ·subst hak
    refine .inr ⟨x,i,me,by simp[AP],?_,hv⟩
    simp[Instr.findNow,Instr.sameNow,hk]
   ·have hfn:Instr.findNow (.int j) (.int j key) (me::ms') i=Instr.findNow (.int j) (.int j key) ms' (i+1):=by
     have:(key==a)=false:=by simp;exact fun h=>hak h.symm
     simp[Instr.findNow,Instr.sameNow,hk,this]
    rcases ih ms' (i+1) h3 with⟨q1,q2⟩|⟨y,n,me',q1,q2,q3⟩
    ·exact .inl ⟨by simp[AP,hak,q1],by rw[hfn];exact q2⟩
    ·exact .inr ⟨y,n,me',by simp[AP,hak,q1],by rw[hfn];exact q2,q3⟩
 rcases gen es ms 0 h with⟨q1,q2⟩|⟨x,n,me,q1,q2,q3⟩
 ·exact .inl ⟨q1,JL hu q2⟩
 ·exact .inr ⟨x,n,me,q1,JL hu q2,q3⟩
theorem ALE(T:TypeId)(mm x:Operand)(ok:Bool):Claim P E (.lookup T mm x ok):=by
 intro R ty ρ H fz slot k r h
 simp only[evalOp]at h
 split at h
 ·rename_i kt vt id hu hm
  split at h
  ·rename_i ka b es ho
   split at h
   ·rename_i b' cs' hkt hz
    split at h
    ·rename_i key fr hb hx
     simp only[AjJ]at hb
     subst hb
     have hkt':=hkt
     simp only[AjJ]at hkt'
     have hK:=Ro hkt'
     obtain⟨hty',hcs',i,z,hi0,hz0,hok,hsz,hza⟩:=Bl hz
     subst hcs'
     have main:∀ (w:World) (F:Nat→Prop) (m:Mp) (ρc:Operand→Value) (o:Oper),o.op = .lookup T mm x ok→HI w F m H fz→(∀ x,Rep w F m H (ρ x) (ρc x)) →
       ∃ u,(execOp ρc o).run P w = .ok (.value (if ok then .tuple #[u,.bool (AP (α:=ka.den) es key).isSome]else u)) w∧Bg w F b' ((AP (α:=ka.den) es key).getD b'.zero) u:=by
      intro w F m ρc o hop hi hr
      have hrm:=hr mm
      rw[hm]at hrm
      unfold Rep at hrm
      rw[ho]at hrm
      obtain⟨bb,c,e1,e2⟩:=hrm
      obtain⟨b2,c',ms,clock,e3,e4,e5,_⟩:=hi.obj id _ ho
      rw[e1]at e3;cases e3
      have hkv:ρc x=CE ka key:=(hK.rep _ _ _ _).1 (DE hi hx (hr x))
      have hck:=hK.check w ms.isEmpty key
      rcases hK.find w F _ key es ms.toList e5 with⟨_,q1,q2⟩|⟨y,n,me,_,q1,q2,q3,q4,_⟩
      ·refine⟨z,?_,by rw[q1];exact N8 hok hza⟩
       rw[q1]
       simp only[execOp,hop,e2,hkv,Instr.lookup,Sem.run_bind,run_underlying hu,Result.andThen_ok,Bf e4,hck,q2,BZ hi0 hz0,Sem.run_pure]
       cases ok<;>rfl
      ·refine⟨me.val,?_,by rw[q1];exact q4⟩
       rw[q1]
       simp only[execOp,hop,e2,hkv,Instr.lookup,Sem.run_bind,run_underlying hu,Result.andThen_ok,Bf e4,hck,q2,Sem.run_pure]
       cases ok<;>rfl
     split at h
     ·refine⟨_,_,h,fun R' k'=>by simp only[evalOp,hu,hm,ho,hkt,hz,AjV,hx],AW fun w F m ρc o hop hty hi hr => ?_⟩
      obtain⟨u,h1,h2⟩:=main w F m ρc o hop hi hr
      refine⟨_,h1,?_⟩
      unfold Rep
      refine⟨_,rfl,?_⟩
      unfold Ad
      refine⟨u,_,rfl,by unfold Rep;exact h2,Sc (BX _)⟩
     ·refine⟨_,_,h,fun R' k'=>by simp only[evalOp,hu,hm,ho,hkt,hz,AjV,hx],AW fun w F m ρc o hop hty hi hr => ?_⟩
      obtain⟨u,h1,h2⟩:=main w F m ρc o hop hi hr
      exact⟨u,h1,by unfold Rep;exact h2⟩
    ·cases h
   ·cases h
  ·rename_i j ks e t xs ver ho
   split at h
   ·rename_i e' t' hk hsl hz
    split at h
    ·rename_i key fr he hx
     refine⟨_,_,h,fun R' k'=>by simp only[evalOp,hu,hm,ho,hk,hsl,hz,he,hx],AW fun w F m ρc o hop hty hi hr => ?_⟩
     simp only[AjJ]at hk he
     simp only[AjK,Akn,Aki]at hz
     obtain⟨⟨⟨b',cs'⟩,hz⟩,rfl⟩:=hz
     obtain⟨hty',hcs',i,z,hi0,hz0,hok,hsz,hza⟩:=Bl hz
     subst hcs'
     obtain⟨hu2,hty2,hpos2⟩:=Bt hsl
     have htt:∃ y,b' = .slice y:=by
      unfold AID YP at hty'
      rw[hu2]at hty'
      simp only[AjX]at hty'
      obtain⟨y,_,rfl⟩:=hty'
      exact⟨y,rfl⟩
     obtain⟨y,rfl⟩:=htt
     have hz1:z = .slice none 0 0:=by
      have h1:z.cells.toList=[.slice none 0 0]:=Bb (w:=w) (F:=F) (.nul y) _ hok
      cases z with
      |agg vs=>simp[VP,Ty.isAgg]at hza
      |_=>simp[Value.cells]at h1<;>first|exact h1|(obtain⟨rfl,rfl,rfl⟩:=h1;rfl)
     have hrm:=hr mm
     rw[hm]at hrm
     unfold Rep at hrm
     rw[ho]at hrm
     obtain⟨bb,c,e1,e2⟩:=hrm
     obtain⟨_,e3⟩:=hi.obj id _ ho
     rw[e1]at e3
     obtain⟨ms,clock,e4,e5,e6,e7,_⟩:=e3
     have e7:=e7.resolve_right fun h=>by cases h.1
     have hkv:ρc x = .int j key:=RX (DE hi hx (hr x))
     have hku:=Gx hk
     have hck:=(Rn hku).check w ms.isEmpty key
     have hck:(Instr.checkKey ms.isEmpty 10000 kt (.int j key)).run P w = .ok () w:=hck
     rcases AHT (w:=w) hku key e6 with⟨q1,q2⟩|⟨me,q1,q2,q3,q4,q5⟩
     ·refine⟨.slice none 0 0,?_,?_⟩
      ·simp only[execOp,hop,e2,hkv,Instr.lookup,Sem.run_bind,run_underlying hu,Result.andThen_ok,Bf e4,hck,q2,BZ hi0 hz0,Sem.run_pure,hz1]
       rfl
      ·unfold Rep;rw[ho]
       exact⟨rfl,AjO _,fun _=>.inr ⟨rfl,by rw[q1,e7],rfl⟩⟩
     ·obtain⟨b3,c3,u,r1,⟨ms',clock',en,r2,r3,r4⟩,r5⟩:=AM5 hi ho (k:=C2 ks key) (by rw[e7];exact q1)
      rw[e1]at r1;cases r1
      rw[e4]at r2;cases r2
      rw[q2]at r3;cases r3
      subst r4
      refine⟨me.val,?_,r5⟩
      simp only[execOp,hop,e2,hkv,Instr.lookup,Sem.run_bind,run_underlying hu,Result.andThen_ok,Bf e4,hck,q5,Sem.run_pure]
      rfl
    ·cases h
   ·cases h
  ·cases h
 ·rename_i kt vt j b es hu hm
  split at h
  ·rename_i b' cs' hk hz
   split at h
   ·rename_i key fr hb hx
    have hb0:=hb
    have hk0:=hk
    simp only[AjK,AjJ,Akn]at hb
    simp only[AjJ]at hk
    obtain⟨hb,hag⟩:=hb
    subst hb
    obtain⟨hty',hcs',i,z,hi0,hz0,hok,hsz,hza⟩:=Bl hz
    subst hcs'
    have hku:=Gx hk
    have main:∀ (w:World) (F:Nat→Prop) (m:Mp) (ρc:Operand→Value) (o:Oper),o.op = .lookup T mm x ok→HI w F m H fz→(∀ x,Rep w F m H (ρ x) (ρc x)) →
      ∃ u,(execOp ρc o).run P w = .ok (.value (if ok then .tuple #[u,.bool (AP (α:=Int) es key).isSome]else u)) w∧Bg w F b' ((AP (α:=Int) es key).getD b'.zero) u:=by
     intro w F m ρc o hop hi hr
     have hrm:=hr mm
     rw[hm]at hrm
     have hrm:Dat w F (.mapi j b') es [ρc mm]:=hrm
     obtain⟨bb,ms,clock,e2,e3,e4,e5⟩:=hrm
     simp only[Aje,Alx]at e2
     have hkv:ρc x = .int j key:=RX (DE hi hx (hr x))
     have hck:=(Rn hku).check w ms.isEmpty key
     have hck:(Instr.checkKey ms.isEmpty 10000 kt (.int j key)).run P w = .ok () w:=hck
     rcases AaP (w:=w) hku key e5 with⟨q1,q2⟩|⟨y,n,me,q1,q2,q4⟩
     ·refine⟨z,?_,by rw[q1];exact N8 hok hza⟩
      rw[q1]
      simp only[execOp,hop,e2,hkv,Instr.lookup,Sem.run_bind,run_underlying hu,Result.andThen_ok,Bf e4,hck,q2,BZ hi0 hz0,Sem.run_pure]
      cases ok<;>rfl
     ·refine⟨me.val,?_,by rw[q1];unfold Bg;rw[hag];simpa using q4⟩
      rw[q1]
      simp only[execOp,hop,e2,hkv,Instr.lookup,Sem.run_bind,run_underlying hu,Result.andThen_ok,Bf e4,hck,q2,Sem.run_pure]
      cases ok<;>rfl
    split at h
    ·refine⟨_,_,h,fun R' k'=>by simp only[evalOp,hu,hm,hk0,hz,AjV,hag,Aj2,AkP,hx],AW fun w F m ρc o hop hty hi hr => ?_⟩
     obtain⟨u,h1,h2⟩:=main w F m ρc o hop hi hr
     refine⟨_,h1,?_⟩
     unfold Rep
     refine⟨_,rfl,?_⟩
     unfold Ad
     refine⟨u,_,rfl,by unfold Rep;exact h2,Sc (BX _)⟩
    ·refine⟨_,_,h,fun R' k'=>by simp only[evalOp,hu,hm,hk0,hz,AjV,hag,Aj2,AkP,hx],AW fun w F m ρc o hop hty hi hr => ?_⟩
     obtain⟨u,h1,h2⟩:=main w F m ρc o hop hi hr
     exact⟨u,h1,by unfold Rep;exact h2⟩
   ·cases h
  ·cases h
 ·cases h
theorem C0{w:World}{r:Nat}{ms ms':Array MapEntry}{clock clock':Nat}(h:w.heap[r]? = some (.map ms clock)):
  (setObj r (.map ms' clock')).run P w = .ok () { w with heap:=w.heap.setIfInBounds r (.map ms' clock') }:=by
 simp[setObj,Sem.run,h]
theorem GL.push{ms:Array MapEntry}{clock:Nat}(h:GL ms clock)(key val:Value):GL (ms.push { key:=key,val:=val,born:=clock }) (clock+1):=by
 obtain⟨h1,h2⟩:=h
 refine⟨by rw[Array.size_push,h1],fun i e he => ?_⟩
 rw[Array.getElem?_push]at he
 split at he
 ·cases he
  show clock=_
  omega
 ·exact h2 i e he
theorem GL.modify{ms:Array MapEntry}{clock:Nat}(h:GL ms clock)(n:Nat){f:MapEntry→MapEntry}(hf:∀ e,(f e).born=e.born):GL (ms.modify n f) clock:=by
 obtain⟨h1,h2⟩:=h
 refine⟨by rw[Array.size_modify,h1],fun i e he => ?_⟩
 rw[Array.getElem?_modify]at he
 split at he
 ·rw[AjX]at he
  obtain⟨e',he',rfl⟩:=he
  rw[hf];exact h2 i e' he'
 ·exact h2 i e he
theorem Yp(T:TypeId)(mm x y:Operand):Claim P E (.mapUpdate T mm x y):=by
 intro R ty ρ H fz slot k r h
 simp only[evalOp]at h
 split at h
 ·rename_i kt vt id hu hm
  split at h
  ·rename_i ka b es ho
   split at h
   ·rename_i key fr0 val fr hkt hx hy
    refine⟨_,_,h,fun R' k'=>by simp only[evalOp,hu,hm,ho,hkt,hx,hy],D0 fun w F m ρc o hop hty hi hr => ?_⟩
    have hkt':=hkt
    simp only[AjJ]at hkt'
    have hK:=Ro hkt'
    have hgf:=Ap.freeze hi fr
    have hrm:=hr mm
    rw[hm]at hrm
    unfold Rep at hrm
    rw[ho]at hrm
    obtain⟨bb,c,e1,e2⟩:=hrm
    obtain⟨b2,c',ms,clock,e3,e4,e5,e6⟩:=hgf.2.obj id _ ho
    rw[e1]at e3;cases e3
    have hkv:ρc x=CE ka key:=(hK.rep _ _ _ _).1 (DE hi hx (hr x))
    have hvd:=DE hi hy (hr y)
    have hck:=hK.check w false key
    have hst:=hK.stays w key
    have hlt:=Ay e4
    have main:∀ (ms':Array MapEntry) (clock':Nat),Iu w (DB F m H fr) ka b (Af (α:=ka.den) es key val) ms'.toList→GL ms' clock' →
      Ap w (DB F m H fr) m H (Ak fr fz) { w with heap:=w.heap.setIfInBounds bb (.map ms' clock') } (DB F m H fr) m (H.set id (.map ka b (Af (α:=ka.den) es key val))) (Ak fr fz):=by
     intro ms' clock' he hbo
     refine Ap.set hgf.2 (Ew ho) e1 ho trivial rfl rfl rfl (by simp) (fun k hk=>by simp[Ajy hk]) fun _ => ?_
     refine⟨bb,c,ms',clock',e1,by simp[hlt],?_,hbo⟩
     refine he.mono (fun a ha => ?_) (fun _ h=>h)
     have:a≠bb:=by rintro rfl;exact hgf.2.off id _ c (Ew ho) e1 ha
     simp[Ajy this]
    obtain⟨s1,s2⟩:=hK.store key val _ hvd e5
    rcases hK.find w _ _ key es ms.toList e5 with⟨q1,_,q2⟩|⟨y',n,me,q1,_,q2,q3,q4,q5⟩
    ·have hg:=main (ms.push { key:=CE ka key,val:=ρc y,born:=clock }) (clock+1) (by rw[Alg];exact s1 clock q1) (e6.push _ _)
     refine⟨_,_,m,?_,hgf.trans hg⟩
     simp only[execOp,hop,e2,hkv,Instr.mapUpdate,Sem.run_bind,run_underlying hu,Result.andThen_ok,Bf e4,hck,q2,C0 e4,Sem.run_pure]
    ·have hg:=main (ms.modify n fun e=>{ e with key:=CE ka key,val:=ρc y }) clock (by rw[AlJ];exact s2 n q1) (e6.modify _ fun _=>rfl)
     refine⟨_,_,m,?_,hgf.trans hg⟩
     have hgetn:ms[n]? = some me:=by simpa using q3
     have hold:(((ms[n]?).map (·.key)).getD (CE ka key))=CE ka key:=by rw[hgetn];exact q5
     simp only[execOp,hop,e2,hkv,Instr.mapUpdate,Sem.run_bind,run_underlying hu,Result.andThen_ok,Bf e4,hck,q2,hold,hst,C0 e4,Sem.run_pure]
   ·cases h
  ·rename_i j ks e t xs ver i' ho
   split at h
   ·rename_i key fr id' i ver' hk hx hy
    split at h
    ·rename_i hid
     split at h
     ·rename_i hii
      refine⟨_,_,h,fun R' k'=>by simp only[evalOp,hu,hm,ho,hk,hx,hy,hid,hii],D0 fun w F m ρc o hop hty hi hr => ?_⟩
      simp only[AjK,AjJ]at hk hid
      obtain⟨hk,hun⟩:=hk
      obtain⟨rfl,rfl⟩:=hid
      simp only[AjK,B9,Akz]at hii
      obtain⟨h1,h2⟩:=hii
      have h1:i=i':=by omega
      have h2:C2 ks key=i':=by omega
      subst h1
      have hun':fz.getD id false=false:=by unfold Aj at hun;simpa using hun
      have hrm:=hr mm
      rw[hm]at hrm
      unfold Rep at hrm
      rw[ho]at hrm
      obtain⟨bb,c,e1,e2⟩:=hrm
      obtain⟨_,e3⟩:=hi.obj id _ ho
      rw[e1]at e3
      obtain⟨ms,clock,e4,e5,e6,e7,e8⟩:=e3
      have hkv:ρc x = .int j key:=RX (DE hi hx (hr x))
      have hku:=Gx hk
      have hck:(Instr.checkKey false 10000 kt (.int j key)).run P w = .ok () w:=(Rn hku).check w false key
      have hst:(Instr.keyThatStays (.int j key) (.int j key)).run P w = .ok (.int j key) w:=(Rn hku).stays w key
      have hry:=hr y
      rw[hy]at hry
      unfold Rep at hry
      rw[ho]at hry
      obtain⟨hone,_,h7⟩:=hry
      have h7:=h7 rfl
      have hlt:=Ay e4
      have hmk:ms.toList.length=ks.length:=by have:=Akf List.length e6;simpa using this
      obtain⟨ys,hys,hrep⟩:∃ ys:List t.den,xs[i]? = some ys∧A8 (some (.arr 0 t ys)) (m (.r id i)) (ρc y):=by
       rcases h7 with h7|⟨_,h8,h9⟩
       ·exact h7
       ·exfalso
        have:=e8 i rfl
        omega
      have main:∀ (ms':Array MapEntry) (clock':Nat),GL ms' clock'→ms'.toList.map (·.key)=(Lr ks i key).map (Value.int j)→xs.length=(Lr ks i key).length→(∃ en,ms'.toList[i]? = some en∧en.val=ρc y)→(∀ k' en,k'≠i→ms.toList[k']? = some en→∃ en',ms'.toList[k']? = some en'∧en'.val=en.val) →
        Ap w F m H fz { w with heap:=w.heap.setIfInBounds bb (.map ms' clock') } F m (H.set id (.rows (.map j (Lr ks i key)) e t xs ver none)) fz:=by
       intro ms' clock' hbo hks hxl hat hoth
       refine Ap.Aiq hi ho hun' hys rfl e1 hrep rfl rfl rfl (by simp) (fun k hk=>by simp[Ajy hk]) (fun _=>⟨⟨ms',clock',by simp[hlt],hbo,hks,.inl hxl,fun k h=>by cases h⟩,?_⟩) ?_
       ·obtain⟨en,q1,q2⟩:=hat
        exact⟨ms',clock',en,by simp[hlt],q1,q2⟩
       ·rintro k' v hne ⟨ms2,clock2,en,q1,q2,q3⟩
        rw[e4]at q1;cases q1
        obtain⟨en',q4,q5⟩:=hoth k' en hne q2
        exact⟨ms',clock',en',by simp[hlt],q4,q5.trans q3⟩
      rcases AHT (w:=w) hku key e6 with⟨q1,q2⟩|⟨me,q1,q2,q3,q4,q5⟩
      ·have hxl:xs.length=ks.length+1:=by
        have:=CU hys
        rcases e7 with e7|⟨e7,e8⟩<;>omega
       have hdp:Lr ks i key=ks++[key]:=by unfold Lr;rw[AjQ (by omega)]
       have hg:=main (ms.push { key:=.int j key,val:=ρc y,born:=clock }) (clock+1) (e5.push _ _) (by rw[hdp,Alg,Akt,Akt,e6];rfl) (by rw[hdp,AjS];exact hxl)
        ⟨_,by rw[Alg,Ajv (by omega),show i-ms.toList.length=0 from by omega];rfl,rfl⟩
        (fun k' en hne hk'=>⟨en,by rw[Alg,Ajp (by
         rcases Aj5 k' ms.toList.length with h'|h'
         ·exact h'
         ·rw[Ajo h']at hk';cases hk')];exact hk',rfl⟩)
       refine⟨_,F,m,?_,hg⟩
       simp only[execOp,hop,e2,hkv,Instr.mapUpdate,Sem.run_bind,run_underlying hu,Result.andThen_ok,Bf e4,hck,q2,C0 e4,Sem.run_pure]
      ·have hilt:i<ks.length:=by omega
       have hxl:xs.length=ks.length:=by
        rcases e7 with e7|⟨e7,e8⟩
        ·exact e7
        ·cases e7;omega
       have hdp:Lr ks i key=ks:=by
        unfold Lr
        rw[AjP hilt]
        apply Ak5
        intro n
        by_cases hn:n=i
        ·subst hn;rw[Akh hilt,← h2,q4]
        ·rw[Ajx (Ajy hn)]
       rw[h2]at q2 q5
       have hgetn:ms[i]? = some me:=by simpa using q2
       have hg:=main (ms.modify i fun e=>{ e with key:=.int j key,val:=ρc y }) clock (e5.modify _ fun _=>rfl) (by
         rw[hdp,← e6,AlJ]
         apply Ak5
         intro n
         rw[Ajq,Ajq,Aly]
         by_cases hn:i=n
         ·subst hn;rw[q2];simp[q3]
         ·simp[hn]) (by rw[hdp];exact hxl)
        ⟨_,by rw[AlJ,Aly,q2];simp only[Ajw];rfl,rfl⟩
        (fun k' en hne hk'=>⟨en,by rw[AlJ,Aly,hk'];simp[Ajy hne],rfl⟩)
       refine⟨_,F,m,?_,hg⟩
       have hold:(((ms[i]?).map (·.key)).getD (.int j key)) = .int j key:=by rw[hgetn];exact q3
       simp only[execOp,hop,e2,hkv,Instr.mapUpdate,Sem.run_bind,run_underlying hu,Result.andThen_ok,Bf e4,hck,q5,hold,hst,C0 e4,Sem.run_pure]
     ·cases h
    ·cases h
   ·cases h
  ·cases h
 ·cases h
theorem ALF(T:TypeId)(mm x y:Operand):Claim P E (.insert T mm x y):=by
 intro R ty ρ H fz slot k r h
 simp only[evalOp]at h
 split at h
 ·rename_i kt vt id hu hm
  split at h
  ·rename_i ka b es ho
   split at h
   ·rename_i key fr0 val fr hkt hx hy
    refine⟨_,_,h,fun R' k'=>by simp only[evalOp,hu,hm,ho,hkt,hx,hy],D0 fun w F m ρc o hop hty hi hr => ?_⟩
    have hkt':=hkt
    simp only[AjJ]at hkt'
    have hK:=Ro hkt'
    have hgf:=Ap.freeze hi fr
    have hrm:=hr mm
    rw[hm]at hrm
    unfold Rep at hrm
    rw[ho]at hrm
    obtain⟨bb,c,e1,e2⟩:=hrm
    obtain⟨b2,c',ms,clock,e3,e4,e5,e6⟩:=hgf.2.obj id _ ho
    rw[e1]at e3;cases e3
    have hkv:ρc x=CE ka key:=(hK.rep _ _ _ _).1 (DE hi hx (hr x))
    have hvd:=DE hi hy (hr y)
    have hck:=hK.check w false key
    have hst:=hK.stays w key
    have hlt:=Ay e4
    have main:∀ (ms':Array MapEntry) (clock':Nat),Iu w (DB F m H fr) ka b (Af (α:=ka.den) es key val) ms'.toList→GL ms' clock' →
      Ap w (DB F m H fr) m H (Ak fr fz) { w with heap:=w.heap.setIfInBounds bb (.map ms' clock') } (DB F m H fr) m (H.set id (.map ka b (Af (α:=ka.den) es key val))) (Ak fr fz):=by
     intro ms' clock' he hbo
     refine Ap.set hgf.2 (Ew ho) e1 ho trivial rfl rfl rfl (by simp) (fun k hk=>by simp[Ajy hk]) fun _ => ?_
     refine⟨bb,c,ms',clock',e1,by simp[hlt],?_,hbo⟩
     refine he.mono (fun a ha => ?_) (fun _ h=>h)
     have:a≠bb:=by rintro rfl;exact hgf.2.off id _ c (Ew ho) e1 ha
     simp[Ajy this]
    obtain⟨s1,s2⟩:=hK.store key val _ hvd e5
    rcases hK.find w _ _ key es ms.toList e5 with⟨q1,_,q2⟩|⟨y',n,me,q1,_,q2,q3,q4,q5⟩
    ·have hg:=main (ms.push { key:=CE ka key,val:=ρc y,born:=clock }) (clock+1) (by rw[Alg];exact s1 clock q1) (e6.push _ _)
     refine⟨_,_,m,?_,hgf.trans hg⟩
     simp only[execOp,hop,e2,hkv,Instr.mapUpdate,Sem.run_bind,run_underlying hu,Result.andThen_ok,Bf e4,hck,q2,C0 e4,Sem.run_pure]
    ·have hg:=main (ms.modify n fun e=>{ e with key:=CE ka key,val:=ρc y }) clock (by rw[AlJ];exact s2 n q1) (e6.modify _ fun _=>rfl)
     refine⟨_,_,m,?_,hgf.trans hg⟩
     have hgetn:ms[n]? = some me:=by simpa using q3
     have hold:(((ms[n]?).map (·.key)).getD (CE ka key))=CE ka key:=by rw[hgetn];exact q5
     simp only[execOp,hop,e2,hkv,Instr.mapUpdate,Sem.run_bind,run_underlying hu,Result.andThen_ok,Bf e4,hck,q2,hold,hst,C0 e4,Sem.run_pure]
   ·cases h
  ·cases h
 ·cases h
theorem AJ4{ms:Array MapEntry}{n:Nat}{me:MapEntry}(h:ms[n]? = some me){f g:MapEntry→MapEntry}(he:f me=g me):ms.modify n f=ms.modify n g:=by
 apply Array.ext_getElem?
 intro i
 rw[Array.getElem?_modify,Array.getElem?_modify]
 split
 ·rename_i hi
  subst hi
  rw[h,Ak2,Ak2,he]
 ·rfl
theorem ADm(T:TypeId)(mm x:Operand):Claim P E (.mapEntry T mm x):=by
 intro R ty ρ H fz slot k r h
 simp only[evalOp]at h
 split at h
 ·rename_i kt vt id hu hm
  split at h
  ·rename_i ka b es ho
   split at h
   ·rename_i b' cs' key fr hkt hz hx
    split at h
    ·rename_i hb
     simp only[AjJ]at hb
     subst hb
     refine⟨_,_,h,fun R' k'=>by simp only[evalOp,hu,hm,ho,hkt,hz,hx,AjV],A4 fun w F m ρc o hop hty hi hr => ?_⟩
     have hkt':=hkt
     simp only[AjJ]at hkt'
     have hK:=Ro hkt'
     obtain⟨hty',hcs',i,z,hi0,hz0,hok,hsz,hza⟩:=Bl hz
     subst hcs'
     have hrm:=hr mm
     rw[hm]at hrm
     unfold Rep at hrm
     rw[ho]at hrm
     obtain⟨bb,c,e1,e2⟩:=hrm
     obtain⟨b2,c',ms,clock,e3,e4,e5,e6⟩:=hi.obj id _ ho
     rw[e1]at e3;cases e3
     have hkv:ρc x=CE ka key:=(hK.rep _ _ _ _).1 (DE hi hx (hr x))
     have hck:=hK.check w false key
     have hst:=hK.stays w key
     have hlt:=Ay e4
     have main:∀ (val:b'.den) (ms':Array MapEntry) (clock':Nat),Iu w F ka b' (Af (α:=ka.den) es key val) ms'.toList→GL ms' clock' →
       Ap w F m H fz { w with heap:=w.heap.setIfInBounds bb (.map ms' clock') } F m (H.set id (.map ka b' (Af (α:=ka.den) es key val))) fz:=by
      intro val ms' clock' he hbo
      refine Ap.set hi (Ew ho) e1 ho trivial rfl rfl rfl (by simp) (fun k hk=>by simp[Ajy hk]) fun _ => ?_
      refine⟨bb,c,ms',clock',e1,by simp[hlt],?_,hbo⟩
      refine he.mono (fun a ha => ?_) (fun _ h=>h)
      have:a≠bb:=by rintro rfl;exact hi.off id _ c (Ew ho) e1 ha
      simp[Ajy this]
     have tup:∀ (d:b'.den) (u:Value) (n:Nat),Bg w F b' d u→Rep w F m H (.tup [.data b' d,.data (.int .i64) (n:Int)]) (.tuple #[u,goInt (n:Int)]):=by
      intro d u n hd
      unfold Rep
      refine⟨_,rfl,?_⟩
      unfold Ad
      exact⟨u,_,rfl,by unfold Rep;exact hd,Sc (A1 _ _)⟩
     have hlen:=ADL e5
     rcases hK.find w _ _ key es ms.toList e5 with⟨q1,q0,q2⟩|⟨y',n,me,q1,q0,q2,q3,q4,q5⟩
     ·obtain⟨s1,_⟩:=hK.store key b'.zero z (N8 hok hza) e5
      have hg:=main b'.zero (ms.push { key:=CE ka key,val:=z,born:=clock }) (clock+1) (by rw[Alg];exact s1 clock q1) (e6.push _ _)
      have hp:Rb (α:=ka.den) es key=(clock:Int):=by
       unfold Rb
       rw[q1,e6.1]
       rw[AjZ]at hlen
       rw[AmV,hlen]
      rw[q0,AmV,hp]
      refine⟨_,_,F,m,?_,hg,hg.1.rep hi (tup b'.zero z clock (N8 hok hza))⟩
      simp only[execOp,hop,e2,hkv,Instr.mapEntry,Sem.run_bind,run_underlying hu,Result.andThen_ok,Bf e4,hck,q2,BZ hi0 hz0,C0 e4,Sem.run_pure]
     ·obtain⟨_,s2⟩:=hK.store key y' me.val q4 e5
      have hgetn:ms[n]? = some me:=by simpa using q3
      have hmod:(ms.modify n fun e=>{ e with key:=CE ka key,val:=me.val })=ms.modify n fun e=>{ e with key:=CE ka key }:=AJ4 hgetn rfl
      have hg:=main y' (ms.modify n fun e=>{ e with key:=CE ka key,val:=me.val }) clock (by rw[AlJ];exact s2 n q1) (e6.modify _ fun _=>rfl)
      rw[hmod]at hg
      have hp:Rb (α:=ka.den) es key=(n:Int):=by
       unfold Rb
       rw[q1,Ajn]
      rw[q0,Ajn,hp]
      have hold:(((ms[n]?).map (·.key)).getD (CE ka key))=CE ka key:=by rw[hgetn];exact q5
      have hbn:(((ms[n]?).map fun x=>(x.born:Int)).getD 0)=(n:Int):=by
       rw[hgetn]
       show(me.born:Int)=n
       rw[e6.2 n me hgetn]
      refine⟨_,_,F,m,?_,hg,hg.1.rep hi (tup y' me.val n q4)⟩
      simp only[execOp,hop,e2,hkv,Instr.mapEntry,Sem.run_bind,run_underlying hu,Result.andThen_ok,Bf e4,hck,q2,hold,hst,hbn,C0 e4,Sem.run_pure]
    ·cases h
   ·cases h
  ·cases h
 ·cases h
theorem AeZ{w:World}{F:Nat→Prop}{a b:Ty}(val:b.den)(v:Value)(hv:Bg w F b val v):∀ {es:List (a.den×b.den)} {ms:List MapEntry} (n:Nat),Iu w F a b es ms→Iu w F a b (es.modify n fun e=>(e.1,val)) (ms.modify n fun e=>{ e with val:=v }):=by
 intro es
 induction es with
 |nil=>rintro ms n rfl;cases n<;>rfl
 |cons e es ih=>
  rintro ms n ⟨me,ms',rfl,⟨h1,h2⟩,h3⟩
  cases n with
  |zero=>exact⟨_,ms',rfl,⟨h1,hv⟩,h3⟩
  |succ n=>exact⟨me,_,rfl,⟨h1,h2⟩,ih n h3⟩
theorem AaQ{ms:Array MapEntry}{clock:Nat}(h:GL ms clock){i:Nat}(hi:i<ms.size):ms.findIdx? (fun e=>(e.born:Int)==(i:Int))=some i:=by
 rw[Array.findIdx?_eq_some_iff_getElem]
 refine⟨hi,?_,fun j hj => ?_⟩
 ·have:=h.2 i ms[i] (by simp[hi])
  simp[this]
 ·have:=h.2 j ms[j] (by simp)
  simp[this]
  omega
theorem WS(T:TypeId)(mm s y:Operand):Claim P E (.entryStore T mm s y):=by
 intro R ty ρ H fz slot k r h
 simp only[evalOp]at h
 split at h
 ·rename_i id i0 hm hs
  split at h
  ·rename_i ka b es ho
   split at h
   ·rename_i val fr hy
    split at h
    rotate_left
    ·cases h
    rename_i hc
    refine⟨_,_,h,fun R' k'=>by simp only[evalOp,hm,hs,ho,hy,hc],D0 fun w F m ρc o hop hty hi hr => ?_⟩
    have hgf:=Ap.freeze hi fr
    have hrm:=hr mm
    rw[hm]at hrm
    unfold Rep at hrm
    rw[ho]at hrm
    obtain⟨bb,c,e1,e2⟩:=hrm
    obtain⟨b2,c',ms,clock,e3,e4,e5,e6⟩:=hgf.2.obj id _ ho
    rw[e1]at e3;cases e3
    have hrs:=hr s
    rw[hs]at hrs
    unfold Rep at hrs
    have hsv:=RX hrs
    have hvd:=DE hi hy (hr y)
    have hlt:=Ay e4
    have hlen:=ADL e5
    rw[AjZ]at hlen
    rw[AjK,Ar,Ag,Aku,Aku]at hc
    obtain⟨n,rfl⟩:=AjU hc.1
    have hn:n<ms.size:=by
     have:=hc.2
     unfold AG at this
     omega
    have hfi:=AaQ e6 hn
    have hg:Ap w (DB F m H fr) m H (Ak fr fz) { w with heap:=w.heap.setIfInBounds bb (.map (ms.modify n fun e=>{ e with val:=ρc y }) clock) } (DB F m H fr) m (H.set id (.map ka b (AOg es (n:Int) val))) (Ak fr fz):=by
     refine Ap.set hgf.2 (Ew ho) e1 ho trivial rfl rfl rfl (by simp) (fun k hk=>by simp[Ajy hk]) fun _ => ?_
     refine⟨bb,c,ms.modify n fun e=>{ e with val:=ρc y },clock,e1,by simp[hlt],?_,e6.modify n fun _=>rfl⟩
     have he:Iu w (DB F m H fr) ka b (es.modify n fun e=>(e.1,val)) (ms.modify n fun e=>{ e with val:=ρc y }).toList:=by
      rw[AlJ];exact AeZ val (ρc y) hvd n e5
     unfold AOg
     rw[AkG]
     refine he.mono (fun a ha => ?_) (fun _ h=>h)
     have:a≠bb:=by rintro rfl;exact hgf.2.off id _ c (Ew ho) e1 ha
     simp[Ajy this]
    refine⟨_,_,m,?_,hgf.trans hg⟩
    simp only[execOp,hop,e2,hsv,Instr.entryStore,Sem.run_bind,Result.andThen_ok,Bf e4,asInt,asIntOf,Sem.run_pure,hfi,C0 e4]
   ·cases h
  ·cases h
 ·cases h
theorem Ke(hE:∀ g,AR P g (E.spec g))(o:Op):Claim P E o:=by
 cases o with
 |move x=>exact AVA x
 |assign x=>exact ALG x
 |pick c a b=>exact AU9 c a b
 |alloc T=>exact AQD T
 |box T x=>exact Aah T x
 |build T parts=>exact AQB T parts
 |buildSlice T len parts=>exact WT T len parts
 |load T x=>exact AVB T x
 |store T x y=>exact AP7 T x y
 |nilCheck x=>exact ADl x
 |binOp op T x y T'=>exact AQC op T x y T'
 |unOp op T x=>exact AU8 op T x
 |convert S T x=>exact AFz S T x
 |makeFunc fn first cs=>exact ADn fn first cs
 |makeMap T r=>exact AFx T r
 |makeSlice T x y=>exact Yq T x y
 |slice T x lo up mx=>
  cases mx with
  |none=>exact WR T x lo up
  |some mx=>exact Yo T x lo up mx
 |fieldAddr T x f=>exact Ys T x f
 |field T x f=>exact AP9 T x f
 |indexAddr T x y=>exact Yr T x y
 |index T x y=>exact AP8 T x y
 |lookup T m x ok=>exact ALE T m x ok
 |mapUpdate T m x y=>exact Yp T m x y
 |insert T m x y=>exact ALF T m x y
 |mapEntry T m x=>exact ADm T m x
 |entryStore T m s y=>exact WS T m s y
 |extract x i=>exact AFy x i
 |call c=>
  obtain⟨callee,args,ts⟩:=c
  cases callee with
  |value f=>exact AVC hE f args ts
  |invoke r n=>intro R ty ρ H fz slot k r h;simp[evalOp]at h
  |builtin b=>
   cases b with
   |len=>exact Aaf args ts
   |append=>exact ALH args ts
   |cap=>exact Aag args ts
   |min=>exact Aad args ts
   |max=>exact Aae args ts
   |clear=>exact AQA args ts
   |_=>intro R ty ρ H fz slot k r h;simp[evalOp]at h
 |_=>intro R ty ρ H fz slot k r h;simp[evalOp]at h
end
end Go.Pev
end
section
namespace Go.Pev
open Go.RowKit
structure SI(w:World)(F:Nat→Prop)(m:Mp)(st:St)(a:Act):Prop where
 tmps:∀ t,Rep w F m st.heap (st.tmps.getD t .junk) (a.tmps.getD t undef)
 size:st.tmps.length=a.tmps.size
 heap:HI w F m st.heap st.frz
 defers:a.defers=[]
def Aid{R:Type}(r:R)(k:St→Option R)(w:World)(F:Nat→Prop)(m:Mp)(H:List Ob)(fz:List Bool)(a':Act)(w':World):Prop:=
 ∃ st' F' m',k st'=some r∧SI w' F' m' st' a'∧Ext w F m H fz w' F' m' st'.heap st'.frz
section
variable {P:Program} {E:Env} {R:Type} {r:R}
theorem SI.put{w:World}{F:Nat→Prop}{m:Mp}{st:St}{a:Act}(h:SI w F m st a){v:AV}{u:Value}(hr:Rep w F m st.heap v u)(d:Option Tmp):SI w F m (st.put d v) (a.put d u):=by
 cases d with
 |none=>exact h
 |some d=>
  refine⟨fun t => ?_,by simp[St.put,Act.put,h.size],h.heap,h.defers⟩
  simp only[St.put,Act.put]
  by_cases htd:t=d
  ·subst htd
   by_cases hlt:t<st.tmps.length
   ·have hlt':t<a.tmps.size:=h.size▸hlt
    simp[hlt,hlt',hr]
   ·have hlt':¬ t<a.tmps.size:=h.size▸hlt
    have:=h.tmps t
    rw[AjI,Aj4]at this ⊢
    rw[List.set_eq_of_length_le (by omega)]
    simpa [Array.setIfInBounds,hlt']using this
  ·have:=h.tmps t
   rw[AjI,Aj4]at this ⊢
   rw[Ajx (Ajy htd),Array.getElem?_setIfInBounds_ne (Ajy htd)]
   exact this
theorem SI.go{w w':World}{F F':Nat→Prop}{m m':Mp}{st:St}{a:Act}(h:SI w F m st a){e:Eff}(hg:Ap w F m st.heap st.frz w' F' m' (CS e st.heap) (GN e st.frz)):SI w' F' m' (st.app e) a:=
 ⟨fun t=>hg.1.rep h.heap (h.tmps t),h.size,hg.2,h.defers⟩
theorem SI.lit{w:World}{F:Nat→Prop}{m:Mp}{st:St}{a:Act}(h:SI w F m st a){d:Nat}{b:Bool}(hd:st.tmps[d]? = some (.data .bool b)):SI w F m { st with tmps:=st.tmps.set d (.data .bool b) } a:=by
 have:st.tmps.set d (.data .bool b)=st.tmps:=by
  apply Ak5
  intro i
  by_cases hid:i=d
  ·subst hid
   rw[hd,Akh (by
    rcases Aj5 i st.tmps.length with h'|h'
    ·exact h'
    ·rw[Ajo h']at hd;cases hd)]
  ·rw[Ajx (Ajy hid)]
 rw[this];exact h
theorem PX{w:World}{F:Nat→Prop}{m:Mp}{st:St}{a:Act}(h:SI w F m st a){ops:Array Oper}{j d:Nat}(hj:(ops.toList[j]?).bind (·.dst)=some d){b:Bool}(hd:st.tmps[d]? = some (.data .bool b)):
  yielded ops a.tmps j=some b:=by
 have hlt:d<st.tmps.length:=by
  rcases Aj5 d st.tmps.length with h'|h'
  ·exact h'
  ·rw[Ajo h']at hd;cases hd
 have hlt':d<a.tmps.size:=h.size▸hlt
 have hr:=h.tmps d
 rw[AjI,hd,Aj4,AkX hlt']at hr
 have hb:=Co hr
 simp only[Ajn]at hb
 have hj':(ops[j]?).bind (·.dst)=some d:=by simpa using hj
 unfold yielded
 rw[hj']
 simp[AkX hlt',hb]
theorem AMg{w:World}{F:Nat→Prop}{m:Mp}{H:List Ob}:Rep w F m H BV undef:=by
 unfold BV Rep
 exact⟨#[],rfl,by unfold Ad;rfl⟩
theorem Qq{w:World}{F:Nat→Prop}{m:Mp}{st:St}{a:Act}(h:SI w F m st a){ops:Array Oper}{j d:Nat}(hj:(ops.toList[j]?).bind (·.dst)=some d)(hd:st.tmps[d]? = some (.tup [])):
  yielded ops a.tmps j=none:=by
 have hlt:d<st.tmps.length:=by
  rcases Aj5 d st.tmps.length with h'|h'
  ·exact h'
  ·rw[Ajo h']at hd;cases hd
 have hlt':d<a.tmps.size:=h.size▸hlt
 have hr:=h.tmps d
 rw[AjI,hd,Aj4,AkX hlt']at hr
 simp only[Ajn]at hr
 unfold Rep at hr
 obtain⟨us,e,_⟩:=hr
 have hj':(ops[j]?).bind (·.dst)=some d:=by simpa using hj
 unfold yielded
 rw[hj']
 simp[AkX hlt',e]
theorem AUS{w:World}{F:Nat→Prop}{m:Mp}{st:St}{a:Act}(h:SI w F m st a){ops:Array Oper}{o:Oper}{yes no:St→Option R}(hg:guarded R ops.toList o.guard st yes no=some r):
  ∃ st',SI w F m st' a∧st'.heap=st.heap∧st'.frz=st.frz∧((Region.wanted o (yielded ops a.tmps)=true∧yes st'=some r)∨(Region.wanted o (yielded ops a.tmps)=false∧no st'=some r)):=by
 unfold guarded at hg
 split at hg
 ·rename_i hgd
  exact⟨st,h,rfl,rfl,.inl ⟨by simp[Region.wanted,hgd],hg⟩⟩
 ·rename_i j want hgd
  split at hg
  ·cases hg
  ·rename_i d hj
   split at hg
   ·rename_i b hd
    have hy:=PX h hj hd
    split at hg
    ·split at hg
     ·exact⟨_,h.lit hd,rfl,rfl,.inl ⟨by simp[Region.wanted,hgd,hy],hg⟩⟩
     ·exact⟨_,h.lit hd,rfl,rfl,.inr ⟨by simp[Region.wanted,hgd,hy],hg⟩⟩
    ·split at hg
     ·exact⟨_,h.lit hd,rfl,rfl,.inr ⟨by simp[Region.wanted,hgd,hy],hg⟩⟩
     ·exact⟨_,h.lit hd,rfl,rfl,.inl ⟨by simp[Region.wanted,hgd,hy],hg⟩⟩
   ·rename_i hd
    exact⟨st,h,rfl,rfl,.inr ⟨by simp[Region.wanted,hgd,Qq h hj hd],hg⟩⟩
   ·cases hg
theorem AYw(hE:∀ g,AR P g (E.spec g)){ops:Array Oper}{Q:Exit→Act→World→Prop}{k:St→Option R}:∀ (rest pre:List Oper) (slot:Nat) (st:St) (w:World) (F:Nat→Prop) (m:Mp) (a:Act),ops.toList=pre++rest →
  Ji P E R ops.toList rest slot st k=some r→SI w F m st a→(∀ a' w',Aid r k w F m st.heap st.frz a' w'→Q .normal a' w')→wpOps P ops Q (List.range' pre.length rest.length) a w:=by
 intro rest
 induction rest with
 |nil=>
  intro pre slot st w F m a _ h hs hq
  exact hq a w ⟨st,F,m,h,hs,Ext.refl ..⟩
 |cons o rest ih=>
  intro pre slot st w F m a hops h hs hq
  simp only[Ji]at h
  have hget:ops[pre.length]? = some o:=by
   rw[← Alc,hops];simp
  have hops':ops.toList=(pre++[o])++rest:=by rw[hops];simp
  have hlen:(pre++[o]).length=pre.length+1:=by simp
  rw[AjR,AmW]
  simp only[wpOps,hget]
  obtain⟨st',hs',e1,e2,hh⟩:=AUS hs h
  rcases hh with⟨hw,hy⟩|⟨hw,hn⟩
  ·rw[AjP hw]
   left
   obtain⟨v,e,h1,_,h3⟩:=Ke hE o.op R _ _ _ _ _ _ _ hy
   refine h3 w F m a o _ Q rfl rfl hs'.heap (fun x=>ACy hs'.tmps x) fun u w' F' m' hg hr => ?_
   have hs2:=(hs'.go hg).put hr o.dst
   have:=ih (pre++[o]) _ _ w' F' m' (a.put o.dst u) hops' h1 hs2 fun a' w'' ⟨st2,F2,m2,q1,q2,q3⟩=>hq a' w'' ⟨st2,F2,m2,q1,q2,by
    have hx:=hg.1
    rw[e1,e2]at hx
    refine hx.trans ?_
    have:((st'.app e).put o.dst v).heap=CS e st.heap∧((st'.app e).put o.dst v).frz=GN e st.frz:=by
     cases o.dst<;>simp[St.put,St.app,e1,e2]
    rw[this.1,this.2]at q3
    exact q3⟩
   rw[hlen]at this
   exact this
  ·rw[AjQ (by simp[hw])]
   have hs2:SI w F m (st'.put o.dst BV) (a.put o.dst undef):=hs'.put AMg o.dst
   have:=ih (pre++[o]) _ _ w F m (a.put o.dst undef) hops' hn hs2 fun a' w'' ⟨st2,F2,m2,q1,q2,q3⟩=>hq a' w'' ⟨st2,F2,m2,q1,q2,by
    have:(st'.put o.dst BV).heap=st.heap∧(st'.put o.dst BV).frz=st.frz:=by
     cases o.dst<;>simp[St.put,e1,e2]
    rw[this.1,this.2]at q3
    exact q3⟩
   rw[hlen]at this
   exact this
theorem HI.pad{w:World}{F:Nat→Prop}{m:Mp}{H:List Ob}{fz:List Bool}(hi:HI w F m H fz)(n:Nat):Ap w F m H fz w F m (H++List.replicate n .free) (fz++List.replicate n false):=by
 have hget:∀ i o,H[i]? = some o→(H++List.replicate n Ob.free)[i]? = some o:=fun i o h=>by
  rw[Ajp (Al h)];exact h
 have hget':∀ i o,(H++List.replicate n Ob.free)[i]? = some o→H[i]? = some o∨o=Ob.free:=fun i o h=>by
  rcases Aj5 i H.length with hl|hl
  ·rw[Ajp hl]at h;exact .inl h
  ·rw[Ajv hl]at h
   exact .inr (Ak9 (AjW h))
 have hfz:∀ i,(fz++List.replicate n false).getD i false=fz.getD i false:=fun i=>by
  rw[AjI,AjI]
  rcases Aj5 i fz.length with hl|hl
  ·rw[Ajp hl]
  ·rw[Ajv hl,Ajo hl]
   cases hx:(List.replicate n false)[i-fz.length]? with
   |none=>rfl
   |some b=>rw[Ak9 (AjW hx)];rfl
 have hown:∀ i:Ix,owned (H++List.replicate n .free) (fz++List.replicate n false) i→owned H fz i:=fun i ho=>by
  obtain⟨o,h1,h2,h3⟩:=C6 ho
  rcases hget' i.id o h1 with h4|h4
  ·have ho:=(CZ (H:=H) (h1.trans h4.symm)).1 ho
   cases i with
   |r i k=>
    simp only[owned]at *
    split at ho
    ·rw[hfz]at ho;exact ho
    ·exact ho.elim
   |o i=>
    simp only[owned,Bq]at *
    rw[show H[i]? = some o from h4]at ho ⊢
    cases o with
    |free=>exact absurd rfl h2
    |dead=>exact absurd rfl h3
    |box cs=>trivial
    |map a b es=>trivial
    |prs T t is=>trivial
    |rows T e t xs ver out=>simp only at ho ⊢;rw[hfz]at ho;exact ho
    |arr T t xs=>simp only at ho ⊢;rw[hfz]at ho;exact ho
  ·exact absurd h4 h2
 have hcomp:CK H (H++List.replicate n .free) m m:=by
  intro i o ho hf
  rcases CK.refl H m i o ho hf with h|⟨hd,o',h1,h2,_⟩
  ·exact .inl (hget i _ h)
  ·exact .inr ⟨hd,o',hget i _ h1,h2,rfl,fun _ _ _=>rfl⟩
 refine⟨⟨rfl,rfl,rfl,AjO _,fun _ _ _=>rfl,fun _ h=>h,fun _ h=>.inl h,fun i b c h1 h2=>.inl ⟨i,c,hown i h1,h2⟩,hcomp⟩,⟨?_,?_,?_,?_,?_,?_,hi.lt,hi.glo,by simp[hi.len]⟩⟩
 ·intro id o ho
  rcases hget' id o ho with h|rfl
  ·exact ObI.mono (fun _ _=>rfl) (fun _ h=>h) hcomp (fun _ _ _ _ _ _=>rfl) (hi.obj id o h)
  ·trivial
 ·intro i
  cases ho:H[i]? with
  |none=>
   intro T e t xs ver out h1
   rcases hget' i _ h1 with h|h
   ·rw[ho]at h;cases h
   ·cases h
  |some o=>exact B5.mono (fun _ _=>rfl) (fun _ h=>h) hcomp ((hget i o ho).trans ho.symm) (fun _ _=>rfl) (fun _ _ _ _ _ _ _=>rfl) (hi.row i)
 ·intro i T e t xs ver out hio hf x hx ht b c hm
  rw[hfz]at hf
  rcases hget' i _ hio with h|h
  ·exact hi.rfz i T e t xs ver out h hf x hx ((CW (by rw[hx];exact hio.trans h.symm)).1 ht) b c hm
  ·cases h
 ·exact fun i k b c b' c' h1 h2=>hi.sep i k b c b' c' (hown i h1) (hown k h2)
 ·exact fun i b c h1=>hi.off i b c (hown i h1)
 ·intro i T t xs b c hio hf hmi
  rw[hfz]at hf
  rcases hget' i _ hio with h|h
  ·exact hi.froz i T t xs b c h hf hmi
  ·cases h
theorem SI.pad{w:World}{F:Nat→Prop}{m:Mp}{st:St}{a:Act}(h:SI w F m st a)(n:Nat):SI w F m (st.pad n) a∧Ext w F m st.heap st.frz w F m (st.pad n).heap (st.pad n).frz:=by
 have hg:=h.heap.pad n
 exact⟨⟨fun t=>hg.1.rep h.heap (h.tmps t),h.size,hg.2,h.defers⟩,hg.1⟩
theorem AJb(hE:∀ g,AR P g (E.spec g)){id:Nat}{ops:Array Oper}{Q:Exit→Act→World→Prop}{k:St→Option R}{st:St}{w:World}{F:Nat→Prop}{m:Mp}{a:Act}(h:Hd P E R ops.toList st k=some r)(hs:SI w F m st a)
  (hq:∀ a' w',Aid r k w F m st.heap st.frz a' w'→Q .normal a' w'):(Code.region id ops false).wp P Q a w:=by
 obtain⟨h1,h2⟩:=hs.pad (FE ops.toList)
 have:=AYw hE ops.toList [] _ _ w F m a (by simp) h h1 fun a' w' ⟨st',F',m',q1,q2,q3⟩=>hq a' w' ⟨st',F',m',q1,q2,h2.trans q3⟩
 rw[Aji,AjZ,← List.range_eq_range']at this
 exact wp_region this
end
end Go.Pev
end
section
namespace Go.Pev
open Go.RowKit
theorem D3{H H':List Ob}(t:Ty)(v:AV)(h:∀ id∈Am v,H[id]? = H'[id]?):Dl H t v=Dl H' t v:=by
 cases v<;>simp only[Dl]
 ·rename_i id;rw[h id (by simp[Am])]
 ·rename_i id off n;rw[h id (by simp[Am])]
 ·rename_i id;rw[h id (by simp[Am])]
theorem AUP{α:Type}{one one':List AV→Option (α×List Nat×List AV)}{H H':List Ob}
  (h1:∀ cs,(∀ id∈BH cs,H[id]? = H'[id]?)→one cs=one' cs) (h2:∀ cs x f r,one cs=some (x,f,r)→∃ c0,cs=c0++r) :
  ∀ (n:Nat) (cs:List AV),(∀ id∈BH cs,H[id]? = H'[id]?)→Rs one n cs=Rs one' n cs:=by
 intro n
 induction n with
 |zero=>intro cs _;rfl
 |succ n ih=>
  intro cs h
  simp only[Rs]
  rw[← h1 cs h]
  cases ho:one cs with
  |none=>rfl
  |some p=>
   obtain⟨x,f,r⟩:=p
   simp only
   obtain⟨c0,hc⟩:=h2 _ _ _ _ ho
   rw[ih r fun id hid=>h id (by
    subst hc
    clear ho
    induction c0 with
    |nil=>exact hid
    |cons c c0 ih'=>simp only[Ajm,BH,AjL];exact .inr (ih' fun id hid=>h id (by simp only[Ajm,BH,AjL];exact .inr hid)))]
theorem AZz{α:Type}{one:List AV→Option (α×List Nat×List AV)}(h2:∀ cs x f r,one cs=some (x,f,r)→∃ c0,cs=c0++r):
  ∀ (n:Nat) (cs:List AV) (xs:List α) (f:List Nat) (r:List AV),Rs one n cs=some (xs,f,r)→∃ c0,cs=c0++r:=by
 intro n
 induction n with
 |zero=>intro cs xs f r h;simp only[Rs,AjH,Ajl]at h;exact⟨[],h.2.2⟩
 |succ n ih=>
  intro cs xs f r h
  simp only[Rs]at h
  split at h
  ·cases h
  ·rename_i x f1 cs1 ho
   split at h
   ·cases h
   ·rename_i ys g cs2 hi
    simp only[AjH,Ajl]at h
    obtain⟨_,_,rfl⟩:=h
    obtain⟨c0,rfl⟩:=h2 _ _ _ _ ho
    obtain⟨c1,rfl⟩:=ih _ _ _ _ hi
    exact⟨c0++c1,by simp⟩
theorem Ru{H:List Ob}:∀ (t:Ty) (cs:List AV) (x:t.den) (f:List Nat) (r:List AV),Ao H t cs=some (x,f,r)→∃ c0,cs=c0++r:=by
 intro t
 induction t with
 |unit=>intro cs x f r h;simp only[Ao,AjH,Ajl]at h;exact⟨[],h.2.2⟩
 |bool=>
  intro cs x f r h
  cases cs with
  |nil=>simp[Ao]at h
  |cons c cs=>
   unfold Ao at h
   split at h
   ·cases h
   ·simp only[AjH,Ajl]at h;exact⟨[c],by simp[h.2.2]⟩
 |int k=>
  intro cs x f r h
  cases cs with
  |nil=>simp[Ao]at h
  |cons c cs=>
   unfold Ao at h
   split at h
   ·cases h
   ·simp only[AjH,Ajl]at h;exact⟨[c],by simp[h.2.2]⟩
 |slice e _=>
  intro cs x f r h
  cases cs with
  |nil=>simp[Ao]at h
  |cons c cs=>
   unfold Ao at h
   split at h
   ·cases h
   ·simp only[AjH,Ajl]at h;exact⟨[c],by simp[h.2.2]⟩
 |nul e=>
  intro cs x f r h
  cases cs with
  |nil=>simp[Ao]at h
  |cons c cs=>
   unfold Ao at h
   split at h
   ·cases h
   ·simp only[AjH,Ajl]at h;exact⟨[c],by simp[h.2.2]⟩
 |mapi j e _=>
  intro cs x f r h
  cases cs with
  |nil=>simp[Ao]at h
  |cons c cs=>
   unfold Ao at h
   split at h
   ·cases h
   ·simp only[AjH,Ajl]at h;exact⟨[c],by simp[h.2.2]⟩
 |prod a b iha ihb=>
  intro cs x f r h
  simp only[Ao]at h
  split at h
  ·cases h
  ·rename_i y f1 cs1 hy
   split at h
   ·cases h
   ·rename_i z g cs2 hz
    simp only[AjH,Ajl]at h
    obtain⟨_,_,rfl⟩:=h
    obtain⟨c0,rfl⟩:=iha _ _ _ _ hy
    obtain⟨c1,rfl⟩:=ihb _ _ _ _ hz
    exact⟨c0++c1,by simp⟩
 |arr n e ih=>
  intro cs x f r h
  simp only[Ao]at h
  exact AZz ih n cs _ _ _ h
theorem Dt(a b:List AV):BH (a++b)=BH a++BH b:=by
 induction a with
 |nil=>rfl
 |cons x a ih=>simp[BH,ih]
theorem PG{H H':List Ob}:∀ (t:Ty) (cs:List AV),(∀ id∈BH cs,H[id]? = H'[id]?)→Ao H t cs=Ao H' t cs:=by
 intro t
 induction t with
 |unit=>intro cs _;cases cs<;>rfl
 |bool=>
  intro cs h
  cases cs with
  |nil=>rfl
  |cons c cs=>unfold Ao;rw[D3 .bool c fun id hid=>h id (by simp[BH,hid])]
 |int k=>
  intro cs h
  cases cs with
  |nil=>rfl
  |cons c cs=>unfold Ao;rw[D3 (.int k) c fun id hid=>h id (by simp[BH,hid])]
 |slice e _=>
  intro cs h
  cases cs with
  |nil=>rfl
  |cons c cs=>unfold Ao;rw[D3 (.slice e) c fun id hid=>h id (by simp[BH,hid])]
 |nul e=>
  intro cs h
  cases cs with
  |nil=>rfl
  |cons c cs=>unfold Ao;rw[D3 (.nul e) c fun id hid=>h id (by simp[BH,hid])]
 |mapi j e _=>
  intro cs h
  cases cs with
  |nil=>rfl
  |cons c cs=>unfold Ao;rw[D3 (.mapi j e) c fun id hid=>h id (by simp[BH,hid])]
 |prod a b iha ihb=>
  intro cs h
  simp only[Ao]
  rw[← iha cs h]
  cases hx:Ao H a cs with
  |none=>rfl
  |some p=>
   obtain⟨x,f,r⟩:=p
   simp only
   obtain⟨c0,rfl⟩:=Ru a _ _ _ _ hx
   rw[ihb r fun id hid=>h id (by rw[Dt];simp[hid])]
 |arr n e ih=>
  intro cs h
  simp only[Ao]
  exact AUP ih (Ru e) n cs h
theorem Br{H H':List Ob}(t:Ty)(v:AV)(h:∀ id∈Am v,H[id]? = H'[id]?):Eh H t v=Eh H' t v:=by
 unfold Eh
 split
 ·cases v<;>simp only[asAgg]
  rename_i cs
  rw[PG t cs fun id hid=>h id (by simpa [Am]using hid)]
 ·exact D3 t v h
theorem Xz{H H':List Ob}(t:Ty)(v:AV)(h:∀ id∈Am v,H[id]? = H'[id]?):X0 H t v=X0 H' t v:=by
 have h1:=Br t v h
 cases v<;>simp only[X0]<;>first|exact h1|(rw[h1,h _ (by simp[Am])])
structure TD(T:List Nat)(slot n:Nat)(W:List Nat)(H H':List Ob)(fz fz':List Bool):Prop where
 heap:∀ id∈T,H[id]? = H'[id]?
 slotH:∀ s,slot≤s→s<slot+n→H[s]? = H'[s]?
 slotF:∀ s,slot≤s→s<slot+n→fz.getD s false=fz'.getD s false
 len:fz.length=fz'.length
 wrF:∀ id∈W,fz.getD id false=fz'.getD id false
theorem Dx{T:List Nat}{slot n:Nat}{W:List Nat}{H H':List Ob}{fz fz':List Bool}(h:TD T slot n W H H' fz fz'){s:Nat}(h1:slot≤s)(h2:s<slot+n)(fr:List Nat):
  Av H (Ak fr fz) s=Av H' (Ak fr fz') s:=by
 unfold Av
 rw[h.slotH s h1 h2,Ax,Ax,h.slotF s h1 h2,h.len]
theorem Ch{T:List Nat}{slot n:Nat}{W:List Nat}{H H':List Ob}{fz fz':List Bool}(h:TD T slot n W H H' fz fz'){s:Nat}(h1:slot≤s)(h2:s<slot+n):
  Av H fz s=Av H' fz' s:=Dx h h1 h2 []
theorem CL{T W:List Nat}{slot n:Nat}{H H':List Ob}{fz fz':List Bool}(h:TD T slot n W H H' fz fz'){id:Nat}(hid:id∈W)(fr:List Nat):
  Aj (Ak fr fz) id=Aj (Ak fr fz') id:=by
 unfold Aj
 rw[Ax,Ax,h.wrF id hid,h.len]
def Hj(s:Spec):Prop:=
 ∀ R args H H' fz fz' slot k,TD (BH args) slot 4 [] H H' fz fz'→s R args H fz slot k=s R args H' fz' slot k
def ZN(S:List Nat)(H:List Ob):Prop:=∀ id∈S,∀ cs,H[id]? = some (.box cs)→∀ j∈BH cs,j∈S
def Ot(s:Spec):Prop:=
 ∀ R args H H' fz fz' slot k (S:List Nat),(∀ id∈BH args,id∈S)→ZN S H→TD S slot 4 S H H' fz fz'→s R args H fz slot k=s R args H' fz' slot k
def JT(E:Env):Prop:=(∀ g,E.loc g=true→Hj (E.spec g))∧∀ g,E.loc2 g=true→Ot (E.spec g)
section
variable {P:Program} {E:Env}
theorem P7{ρ ρ':Operand→AV}{l:List Operand}(h:∀ x∈l,ρ x=ρ' x):l.map ρ=l.map ρ':=List.map_congr_left h
theorem XK{ρ ρ':Operand→AV}{l:List (Nat×Operand)}(h:∀ x∈l.map (·.2),ρ x=ρ' x):(l.map fun p=>(p.1,ρ p.2))=l.map fun p=>(p.1,ρ' p.2):=
 List.map_congr_left fun p hp=>by rw[h p.2 (List.mem_map_of_mem hp)]
theorem Rq{ρ ρ':Operand→AV}{o:Option Operand}(h:∀ x∈o.toArray,ρ x=ρ' x):EU ρ o=EU ρ' o:=by
 cases o with
 |none=>rfl
 |some x=>simp only[EU];rw[h x (by simp)]
theorem Bu{R:Type}{ρ ρ':Operand→AV}(o:Op)(ty:TypeId)(H:List Ob)(fz:List Bool)(slot:Nat)(k:AV→Eff→Option R)(h:∀ x∈o.operands,ρ x=ρ' x):
  evalOp P E R o ty ρ H fz slot k=evalOp P E R o ty ρ' H fz slot k:=by
 cases o with
 |call c=>
  obtain⟨callee,args,ts⟩:=c
  cases callee with
  |value f=>
   have hf:=h f (by simp[Op.operands,Call.operands])
   have ha:args.toList.map ρ=args.toList.map ρ':=P7 fun x hx=>h x (by simp[Op.operands,Call.operands];right;simpa using hx)
   simp only[evalOp,hf,ha]
  |invoke r n=>rfl
  |builtin b=>
   have ha:∀ x∈args.toList,ρ x=ρ' x:=fun x hx=>h x (by simp[Op.operands,Call.operands];simpa using hx)
   cases b with
   |len=>
    simp only[evalOp]
    cases hl:args.toList with
    |nil=>rfl
    |cons x r=>cases r with
     |nil=>
      rw[hl]at ha
      cases ts.toList with
      |nil=>rfl
      |cons T r=>cases r with
       |nil=>simp only[ha x (by simp)]
       |cons T' r=>rfl
     |cons y r=>rfl
   |append=>
    simp only[evalOp]
    cases hl:args.toList with
    |nil=>rfl
    |cons x r=>cases r with
     |nil=>rfl
     |cons y r=>cases r with
      |nil=>
       rw[hl]at ha
       cases ts.toList with
       |nil=>rfl
       |cons T r=>cases r with
        |nil=>rfl
        |cons T' r=>cases r with
         |nil=>simp only[ha x (by simp),ha y (by simp)]
         |cons T'' r=>rfl
      |cons z r=>rfl
   |cap=>
    simp only[evalOp]
    cases hl:args.toList with
    |nil=>rfl
    |cons x r=>cases r with
     |nil=>
      rw[hl]at ha
      cases ts.toList with
      |nil=>rfl
      |cons T r=>cases r with
       |nil=>simp only[ha x (by simp)]
       |cons T' r=>rfl
     |cons y r=>rfl
   |clear=>
    simp only[evalOp]
    cases hl:args.toList with
    |nil=>rfl
    |cons x r=>cases r with
     |nil=>
      rw[hl]at ha
      cases ts.toList with
      |nil=>rfl
      |cons T r=>cases r with
       |nil=>simp only[ha x (by simp)]
       |cons T' r=>rfl
     |cons y r=>rfl
   |min=>
    simp only[evalOp]
    cases hl:args.toList with
    |nil=>rfl
    |cons x r=>cases r with
     |nil=>rfl
     |cons y r=>cases r with
      |nil=>
       rw[hl]at ha
       simp only[ha x (by simp),ha y (by simp)]
      |cons z r=>rfl
   |max=>
    simp only[evalOp]
    cases hl:args.toList with
    |nil=>rfl
    |cons x r=>cases r with
     |nil=>rfl
     |cons y r=>cases r with
      |nil=>
       rw[hl]at ha
       simp only[ha x (by simp),ha y (by simp)]
      |cons z r=>rfl
   |_=>rfl
 |build T parts=>
  have:=XK (ρ:=ρ) (ρ':=ρ') (l:=parts.toList) fun x hx=>h x (by simpa [Op.operands]using hx)
  simp only[evalOp,this]
 |buildSlice T n parts=>
  have:=XK (ρ:=ρ) (ρ':=ρ') (l:=parts.toList) fun x hx=>h x (by simpa [Op.operands]using hx)
  simp only[evalOp,this]
 |makeFunc fn first cs=>
  cases fn with
  |func f=>
   have:=P7 (ρ:=ρ) (ρ':=ρ') (l:=cs.toList) fun x hx=>h x (by simp[Op.operands];right;simpa using hx)
   have hfst:=P7 (ρ:=ρ) (ρ':=ρ') (l:=first.toList) fun x hx=>h x (by simp[Op.operands];left;simpa using hx)
   simp only[evalOp,this]
   cases hfl:first.toList with
   |nil=>rfl
   |cons y ys=>
    rw[hfl]at hfst
    simp only[hfst]
  |_=>rfl
 |slice T x lo up mx=>
  have hx:=h x (by simp[Op.operands])
  have hlo:=Rq (ρ:=ρ) (ρ':=ρ') (o:=lo) fun y hy=>h y (by simp[Op.operands];simp at hy;simp[hy])
  have hup:=Rq (ρ:=ρ) (ρ':=ρ') (o:=up) fun y hy=>h y (by simp[Op.operands];simp at hy;simp[hy])
  cases mx with
  |none=>simp only[evalOp,hx,hlo,hup]
  |some m=>
   have hm:=h m (by simp[Op.operands])
   rcases up with _|q
   ·simp only[evalOp,hx,hlo,hup,hm]
   ·have hq:=h q (by simp[Op.operands])
    cases q<;>simp only[evalOp,hx,hlo,hup,hm,hq]
 |makeMap T o=>cases o<;>rfl
 |pick a b c=>simp only[evalOp,h a (by simp[Op.operands]),h b (by simp[Op.operands]),h c (by simp[Op.operands])]
 |mapUpdate a b c d=>simp only[evalOp,h b (by simp[Op.operands]),h c (by simp[Op.operands]),h d (by simp[Op.operands])]
 |mapEntry a b c=>simp only[evalOp,h b (by simp[Op.operands]),h c (by simp[Op.operands])]
 |entryStore a b c d=>simp only[evalOp,h b (by simp[Op.operands]),h c (by simp[Op.operands]),h d (by simp[Op.operands])]
 |insert a b c d=>simp only[evalOp,h b (by simp[Op.operands]),h c (by simp[Op.operands]),h d (by simp[Op.operands])]
 |move x|assign x|box _ x|load _ x|nilCheck x|unOp _ _ x|convert _ _ x|fieldAddr _ x _|field _ x _|extract x _=>
  simp only[evalOp,h x (by simp[Op.operands])]
 |store _ x y|binOp _ _ x y _|makeSlice _ x y|indexAddr _ x y|index _ x y|lookup _ x y _=>
  simp only[evalOp,h x (by simp[Op.operands]),h y (by simp[Op.operands])]
 |_=>rfl
theorem Hs{ρ:Operand→AV}{o:Op}{x:Operand}(hx:x∈o.operands){id:Nat}(hid:id∈Am (ρ x)):id∈G5 ρ o:=by
 unfold G5
 exact AmX.2 ⟨x,by simpa using hx,hid⟩
theorem Yh{H H':List Ob}(t:Ty):∀ (ps:List (Nat×AV)) (xs:List t.den) (fr:List Nat),(∀ p∈ps,∀ id∈Am p.2,H[id]? = H'[id]?)→DP H t ps xs fr=DP H' t ps xs fr:=by
 intro ps
 induction ps with
 |nil=>intro xs fr _;rfl
 |cons p ps ih=>
  intro xs fr h
  obtain⟨i,v⟩:=p
  simp only[DP]
  rw[Br t v (h (i,v) (by simp))]
  cases Eh H' t v with
  |none=>rfl
  |some q=>cases decide (i<xs.length)with
   |true=>exact ih _ _ fun p hp=>h p (by simp[hp])
   |false=>rfl
theorem Gc:∀ (t:Ty) (d:t.den),BH (BS t d)=[]:=by
 intro t
 induction t with
 |unit=>intro d;rfl
 |bool=>intro d;rfl
 |int k=>intro d;rfl
 |slice e _=>intro d;rfl
 |nul e=>intro d;rfl
 |mapi j e _=>intro d;rfl
 |prod a b iha ihb=>intro d;simp only[BS];rw[Dt,iha,ihb];rfl
 |arr n e ih=>
  intro d
  simp only[BS]
  have key:∀ l:List Nat,BH (l.flatMap fun i=>BS e (AY d i e.zero))=[]:=by
   intro l
   induction l with
   |nil=>rfl
   |cons x xs ih'=>rw[Aky,Dt,ih,ih'];rfl
  exact key _
theorem ASU(l:List AV)(n:Nat){id:Nat}(h:id∈BH (l.take n)):id∈BH l:=by
 have:=AkF n l
 rw[← this,Dt];simp[h]
theorem ASV(l:List AV)(n:Nat){id:Nat}(h:id∈BH (l.drop n)):id∈BH l:=by
 have:=AkF n l
 rw[← this,Dt];simp[h]
theorem cells?_refs{v:AV}{vs:List AV}(h:cells? v=some vs){id:Nat}(hid:id∈BH vs):id∈Am v:=by
 cases v with
 |junk=>simp[cells?]at h
 |tup _=>simp[cells?]at h
 |agg cs=>simp only[cells?,AjH]at h;subst h;simpa [Am]using hid
 |data t d=>
  cases t with
  |unit=>simp only[cells?,AjH]at h;subst h;simp[BH]at hid
  |prod a b=>simp only[cells?,AjH]at h;subst h;rw[Gc]at hid;cases hid
  |arr n e=>simp only[cells?,AjH]at h;subst h;rw[Gc]at hid;cases hid
  |bool=>simp only[cells?,AjH]at h;subst h;simpa [BH]using hid
  |int k=>simp only[cells?,AjH]at h;subst h;simpa [BH]using hid
  |slice e=>simp only[cells?,AjH]at h;subst h;simpa [BH]using hid
  |nul e=>simp only[cells?,AjH]at h;subst h;simpa [BH]using hid
  |mapi j e=>simp only[cells?,AjH]at h;subst h;simpa [BH]using hid
 |_=>simp only[cells?,AjH]at h;subst h;simpa [BH]using hid
theorem ASh{t:Ty}{d:t.den}{v:AV}{vs cs:List AV}{s:Nat}(hp:Db (BS t d) vs s=some cs)(hc:cells? v=some vs){id:Nat}(hid:id∈BH cs):id∈Am v:=by
 unfold Db at hp
 split at hp
 ·simp only[AjH]at hp;subst hp
  rw[Dt,Dt,AjL,AjL]at hid
  rcases hid with(hid|hid)|hid
  ·have:=ASU _ _ hid;rw[Gc]at this;cases this
  ·exact cells?_refs hc hid
  ·have:=ASV _ _ hid;rw[Gc]at this;cases this
 ·cases hp
theorem PO{R:Type}(hL:JT E){ρ:Operand→AV}(o:Op)(ty:TypeId){H H':List Ob}{fz fz':List Bool}{slot:Nat}(k:AV→Eff→Option R)
  (ha:TD (G5 ρ o) slot (slotsOf o) (D7 ρ o) H H' fz fz') (hl:Gd E ρ o=true):evalOp P E R o ty ρ H fz slot k=evalOp P E R o ty ρ H' fz' slot k:=by
 have tm:∀ x∈o.operands,∀ id∈Am (ρ x),H[id]? = H'[id]? := fun x hx id hid=>ha.heap id (Hs hx hid)
 have own:∀ x∈o.operands,∀ id,ρ x = .own id→H[id]? = H'[id]? := fun x hx id h=>tm x hx id (by rw[h];simp[Am])
 have win:∀ x∈o.operands,∀ id off n,ρ x = .win id off n→H[id]? = H'[id]? := fun x hx id off n h=>tm x hx id (by rw[h];simp[Am])
 have ptr:∀ x∈o.operands,∀ id off,ρ x = .ptr id off→H[id]? = H'[id]? := fun x hx id off h=>tm x hx id (by rw[h];simp[Am])
 have ept:∀ x∈o.operands,∀ id i s,ρ x = .eptr id i s→H[id]? = H'[id]? := fun x hx id i s h=>tm x hx id (by rw[h];simp[Am])
 have mpp:∀ x∈o.operands,∀ id,ρ x = .mp id→H[id]? = H'[id]? := fun x hx id h=>tm x hx id (by rw[h];simp[Am])
 cases o with
 |alloc T=>
  simp only[evalOp,Ch ha (s:=slot) (AjO _) (by simp[slotsOf])]
 |box T x=>
  simp only[evalOp,Ch ha (s:=slot) (AjO _) (by simp[slotsOf])]
 |buildSlice T n parts=>
  have hf:∀ (t:Ty) xs fr,DP H t (parts.toList.map fun p=>(p.1,ρ p.2)) xs fr=DP H' t (parts.toList.map fun p=>(p.1,ρ p.2)) xs fr:=fun t xs fr=>
   Yh t _ xs fr fun p hp id hid=>by
    obtain⟨q,hq,rfl⟩:=Aja.1 hp
    exact tm q.2 (by simp[Op.operands];exact⟨q.1,by simpa using hq⟩) id hid
  simp only[evalOp,hf,Dx ha (s:=slot) (AjO _) (by simp[slotsOf]),Ch ha (s:=slot) (AjO _) (by simp[slotsOf])]
  cases sliceAt P T with
  |some p=>rfl
  |none=>
   dsimp only
   cases cellAt P T with
   |none=>rfl
   |some e=>cases decide (n=1)with
    |false=>rfl
    |true=>
     cases hps:parts.toList with
     |nil=>rfl
     |cons p r=>cases r with
      |cons p' r=>rfl
      |nil=>
       simp only[Ajr,AlA]
       cases hx:ρ p.2<;>try rfl
       rename_i id i s
       dsimp only
       simp only[Cl,ept p.2 (by simp[Op.operands];exact⟨p.1,(by simpa using (show p∈parts.toList by rw[hps];simp))⟩) id i s hx]
 |load T x=>
  simp only[evalOp]
  cases BJ P T with
  |none=>rfl
  |some n=>cases EE P T with
   |none=>rfl
   |some ag=>
    cases hx:ρ x<;>try rfl
    ·rename_i id off;simp only[ptr x (by simp[Op.operands]) id off hx]
    ·rename_i id i s;simp only[ept x (by simp[Op.operands]) id i s hx]
 |store T x y=>
  have hy:=tm y (by simp[Op.operands])
  simp only[evalOp]
  cases hs:BJ P T with
  |none=>rfl
  |some n=>cases hc:cells? (ρ y)with
   |none=>rfl
   |some vs=>
    dsimp only
    cases hd:decide (vs.length=n)with
    |false=>rfl
    |true=>
     dsimp only
     cases hx:ρ x<;>try rfl
     ·rename_i id off;dsimp only;rw[ptr x (by simp[Op.operands]) id off hx]
     ·rename_i id i s
      dsimp only
      rw[ept x (by simp[Op.operands]) id i s hx]
      have hun:∀ fr,Aj (Ak fr fz) id=Aj (Ak fr fz') id:=fun fr=>CL ha (by simp[D7,hx,Am]) fr
      cases H'[id]? with
      |none=>rfl
      |some ob=>cases ob with
       |arr T' t xs=>
        simp only[hun,Br _ (ρ y) hy]
        cases t.nul? with
        |some e=>rfl
        |none=>
        dsimp only
        cases (s==0&&n==t.size)with
        |true=>rfl
        |false=>
         dsimp only
         cases hp:Db (BS t (AY xs i t.zero)) vs s with
         |none=>rfl
         |some cs=>
          dsimp only
          rw[PG t cs (fun id' hid=>hy id' (ASh hp hc hid))]
       |rows T' e t xs ver out=>
        have hun0:Aj fz id=Aj fz' id:=hun []
        cases T' with
        |map j ks=>rfl
        |arr T'=>
        cases out with
        |none=>rfl
        |some i'=>simp only[hun0]
       |_=>rfl
 |nilCheck x=>
  simp only[evalOp]
  cases hx:ρ x<;>try rfl
  ·rename_i id off;simp only[I6,ptr x (by simp[Op.operands]) id off hx]
  ·rename_i id i s;simp only[Cl,ept x (by simp[Op.operands]) id i s hx]
 |fieldAddr T x f=>
  simp only[evalOp]
  cases fieldAt P T f with
  |none=>rfl
  |some p=>
   obtain⟨off,size,ag⟩:=p
   dsimp only
   cases decide (size=0)with
   |true=>rfl
   |false=>
    dsimp only
    cases hx:ρ x<;>try rfl
    ·rename_i id off;simp only[I6,ptr x (by simp[Op.operands]) id off hx]
    ·rename_i id i s;simp only[Cl,ept x (by simp[Op.operands]) id i s hx]
 |makeMap T o=>
  cases o with
  |none=>simp only[evalOp,Ch ha (s:=slot) (AjO _) (by simp[slotsOf])]
  |some x=>rfl
 |makeSlice T x y=>simp only[evalOp,Ch ha (s:=slot) (AjO _) (by simp[slotsOf])]
 |slice T x lo up mx=>
  have hx:=tm x (by simp[Op.operands])
  cases mx with
  |none=>
   have hsl:∀ sz l h,GW H sz (ρ x) l h R=GW H' sz (ρ x) l h R:=fun sz l h=>by
    funext kk
    unfold GW
    cases hv:ρ x with
    |data t d=>cases t<;>rfl
    |own id=>dsimp only;rw[own x (by simp[Op.operands]) id hv]
    |win id off n=>dsimp only;rw[win x (by simp[Op.operands]) id off n hv]
    |_=>rfl
   simp only[evalOp,hsl]
   cases P.underlying T with
   |none=>rfl
   |some d=>cases d with
    |array n e=>
     dsimp only
     cases EU ρ lo with
     |none=>rfl
     |some lo=>cases EU ρ up with
      |none=>rfl
      |some up=>
       cases hv:ρ x<;>try rfl
       rename_i id n'
       dsimp only
       rw[tm x (by simp[Op.operands]) id (by rw[hv];simp[Am])]
    |_=>rfl
  |some mm=>
   have hsl:Fy H (ρ x)=Fy H' (ρ x):=by
    unfold Fy
    cases hv:ρ x with
    |data t d=>cases t<;>rfl
    |own id=>simp only[Cl,own x (by simp[Op.operands]) id hv]
    |win id off n=>simp only[Cl,win x (by simp[Op.operands]) id off n hv]
    |_=>rfl
   simp only[evalOp,hsl,Ch ha (s:=slot) (AjO _) (by simp[slotsOf])]
 |indexAddr T x y=>
  simp only[evalOp]
  cases hu:P.underlying T with
  |none=>rfl
  |some d=>cases d with
   |slice e=>
    cases hy:ρ y<;>try rfl
    rename_i t d'
    cases t<;>try rfl
    cases hv:ρ x with
    |data t d=>cases t<;>rfl
    |own id=>dsimp only;rw[own x (by simp[Op.operands]) id hv]
    |win id off n=>dsimp only;rw[win x (by simp[Op.operands]) id off n hv]
    |_=>rfl
   |array n e=>
    cases hy:ρ y<;>try rfl
    rename_i t d'
    cases t<;>try rfl
    rename_i j
    have hat:AEL H n (ρ x)=AEL H' n (ρ x):=by
     unfold AEL
     cases hv:ρ x<;>try rfl
     rename_i id n'
     dsimp only
     rw[tm x (by simp[Op.operands]) id (by rw[hv];simp[Am])]
    dsimp only
    rw[hat]
    cases AEL H' n (ρ x)with
    |some q=>rfl
    |none=>
    dsimp only
    cases gAt (ρ x)with
    |some q=>rfl
    |none=>
    dsimp only
    cases BJ P e with
    |none=>rfl
    |some s=>cases decide (0≤(d':Int)∧(d':Int)<(n:Int))with
     |false=>rfl
     |true=>
      dsimp only
      cases hv:ρ x<;>try rfl
      ·rename_i id off;simp only[I6,ptr x (by simp[Op.operands]) id off hv]
      ·rename_i id i s;simp only[Cl,ept x (by simp[Op.operands]) id i s hv]
   |_=>rfl
 |lookup T a b ok=>
  have hb:=fun t=>Br t (ρ b) (tm b (by simp[Op.operands]))
  simp only[evalOp,hb]
  cases hu:P.underlying T with
  |none=>rfl
  |some d=>cases d with
   |map kt vt=>
    cases hv:ρ a with
    |data t d=>cases t<;>rfl
    |mp id=>dsimp only;rw[mpp a (by simp[Op.operands]) id hv]
    |_=>rfl
   |_=>rfl
 |mapUpdate T a b c=>
  have hb:=fun t=>Br t (ρ b) (tm b (by simp[Op.operands]))
  have hc:=fun t=>Br t (ρ c) (tm c (by simp[Op.operands]))
  simp only[evalOp,hb,hc]
  cases hu:P.underlying T with
  |none=>rfl
  |some d=>cases d with
   |map kt vt=>
    cases hv:ρ a<;>try rfl
    rename_i id
    dsimp only
    have hun:Aj fz id=Aj fz' id:=CL ha (by simp[D7,hv,Am]) []
    rw[mpp a (by simp[Op.operands]) id hv,hun]
   |_=>rfl
 |mapEntry T a b=>
  have hb:=fun t=>Br t (ρ b) (tm b (by simp[Op.operands]))
  simp only[evalOp]
  cases hu:P.underlying T with
  |none=>rfl
  |some d=>cases d with
   |map kt vt=>
    cases hv:ρ a<;>try rfl
    rename_i id
    dsimp only
    rw[mpp a (by simp[Op.operands]) id hv]
    simp only[hb]
   |_=>rfl
 |entryStore T a b c=>
  have hc:=fun t=>Br t (ρ c) (tm c (by simp[Op.operands]))
  simp only[evalOp]
  cases hv:ρ a<;>try rfl
  rename_i id
  cases hs:ρ b<;>try rfl
  rename_i t d
  cases t<;>try rfl
  rename_i j
  cases j<;>try rfl
  dsimp only
  rw[mpp a (by simp[Op.operands]) id hv]
  simp only[hc]
 |insert T a b c=>
  have hb:=fun t=>Br t (ρ b) (tm b (by simp[Op.operands]))
  have hc:=fun t=>Br t (ρ c) (tm c (by simp[Op.operands]))
  simp only[evalOp]
  cases hu:P.underlying T with
  |none=>rfl
  |some d=>cases d with
   |map kt vt=>
    cases hv:ρ a<;>try rfl
    rename_i id
    dsimp only
    rw[mpp a (by simp[Op.operands]) id hv]
    simp only[hb,hc]
   |_=>rfl
 |convert S T x=>
  have hx:=fun t=>Br t (ρ x) (tm x (by simp[Op.operands]))
  simp only[evalOp]
  split
  ·rfl
  ·simp only[hx]
 |call c=>
  obtain⟨callee,args,ts⟩:=c
  cases callee with
  |value f=>
   simp only[evalOp]
   cases hf:ρ f<;>try rfl
   ·rename_i g caps
    dsimp only
    refine hL.1 g (by simpa [Gd,hf]using hl) R _ H H' fz fz' slot k ⟨fun id hid=>ha.heap id ?_,ha.slotH,ha.slotF,ha.len,fun id hid=>by cases hid⟩
    rw[Dt,AjL]at hid
    rcases hid with hid|hid
    ·have key:∀ l:List Operand,id∈BH (l.map ρ)→∃ x∈l,id∈Am (ρ x):=by
      intro l
      induction l with
      |nil=>intro h;simp[BH]at h
      |cons y l ih=>
       intro h
       simp only[Ajr,BH,AjL]at h
       rcases h with h|h
       ·exact⟨y,by simp,h⟩
       ·obtain⟨x,h1,h2⟩:=ih h
        exact⟨x,by simp[h1],h2⟩
     obtain⟨x,h1,h2⟩:=key _ hid
     exact Hs (x:=x) (by simp[Op.operands,Call.operands];right;simpa using h1) h2
    ·exact Hs (x:=f) (by simp[Op.operands,Call.operands]) (by rw[hf];simpa [Am]using hid)
   ·rename_i g caps
    dsimp only
    refine hL.1 g (by simpa [Gd,hf]using hl) R _ H H' fz fz' slot k ⟨fun id hid=>ha.heap id ?_,ha.slotH,ha.slotF,ha.len,fun id hid=>by cases hid⟩
    rw[Dt,AjL]at hid
    rcases hid.symm with hid|hid
    ·have key:∀ l:List Operand,id∈BH (l.map ρ)→∃ x∈l,id∈Am (ρ x):=by
      intro l
      induction l with
      |nil=>intro h;simp[BH]at h
      |cons y l ih=>
       intro h
       simp only[Ajr,BH,AjL]at h
       rcases h with h|h
       ·exact⟨y,by simp,h⟩
       ·obtain⟨x,h1,h2⟩:=ih h
        exact⟨x,by simp[h1],h2⟩
     obtain⟨x,h1,h2⟩:=key _ hid
     exact Hs (x:=x) (by simp[Op.operands,Call.operands];right;simpa using h1) h2
    ·exact Hs (x:=f) (by simp[Op.operands,Call.operands]) (by rw[hf];simpa [Am]using hid)
  |invoke r n=>rfl
  |builtin b=>
   have ops:∀ x∈args.toList,x∈Op.operands (.call { callee:=.builtin b,args:=args,argTypes:=ts }):=fun x hx=>by simp[Op.operands,Call.operands];simpa using hx
   cases b with
   |len=>
    simp only[evalOp]
    cases h1:args.toList with
    |nil=>rfl
    |cons x r=>cases r with
     |cons y r=>rfl
     |nil=>
      have hx:=ops x (by rw[h1];simp)
      cases ts.toList with
      |nil=>rfl
      |cons T r=>cases r with
       |cons T' r=>rfl
       |nil=>
        dsimp only
        cases hu:P.underlying T with
        |none=>rfl
        |some d=>
         cases d with
         |slice e=>
          dsimp only
          cases hv:ρ x with
          |data t d=>cases t<;>rfl
          |own id=>dsimp only;rw[own x hx id hv]
          |win id off n=>simp only[Cl,win x hx id off n hv]
          |_=>rfl
         |map a b=>
          dsimp only
          cases hv:ρ x with
          |mp id=>dsimp only;rw[mpp x hx id hv]
          |_=>rfl
         |_=>rfl
   |append=>
    simp only[evalOp]
    cases h1:args.toList with
    |nil=>rfl
    |cons s r=>cases r with
     |nil=>rfl
     |cons x r=>cases r with
      |cons z r=>rfl
      |nil=>
       have hs:=ops s (by rw[h1];simp)
       have hx:=ops x (by rw[h1];simp)
       have hfree:=Ch ha (s:=slot) (AjO _) (by simp[slotsOf])
       cases ts.toList with
       |nil=>rfl
       |cons T r=>cases r with
        |nil=>rfl
        |cons T' r=>cases r with
         |cons T'' r=>rfl
         |nil=>
          dsimp only
          cases sliceAt P T with
          |none=>
           cases decide (T=T')with
           |false=>rfl
           |true=>
            dsimp only
            cases cellAt P T with
            |none=>rfl
            |some e=>
             cases hvx:ρ x<;>try rfl
             rename_i ix
             dsimp only
             rw[own x hx ix hvx]
             cases hvs:ρ s with
             |own id=>simp only[hfree,own s hs id hvs]
             |_=>simp only[hfree]
          |some p=>
           obtain⟨e,t⟩:=p
           cases decide (T=T')with
           |false=>
            dsimp only
            cases ρ s<;>try rfl
            cases ρ x with
            |data tx d=>
             cases tx with
             |int kx=>
              simp only[hfree]
             |_=>rfl
            |_=>rfl
           |true=>
            dsimp only
            rw[Br (.slice t) (ρ x) (tm x hx)]
            cases Eh H' (.slice t) (ρ x)with
            |none=>rfl
            |some q=>
             obtain⟨ys,fr⟩:=q
             cases zeroAt P e with
             |none=>rfl
             |some zz=>
              cases (P.info? e).map (fun i=>decide (i.bytes≤1024))with
              |none=>rfl
              |some bb=>cases bb with
               |false=>rfl
               |true=>
                dsimp only
                cases hv:ρ s<;>try rfl
                ·simp only[hfree]
                ·rename_i id
                 have hun:Aj fz id=Aj fz' id:=CL ha (by simp[D7,h1,hv,Am]) []
                 dsimp only
                 rw[own s hs id hv]
                 simp only[hfree,hun]
                ·rename_i id off n
                 have hun:Aj fz id=Aj fz' id:=CL ha (by simp[D7,h1,hv,Am]) []
                 cases off with
                 |succ off=>rfl
                 |zero=>simp only[win s hs id 0 n hv,hfree,hun]
                ·simp only[hfree]
                ·rename_i id i ver
                 have hun:Aj fz id=Aj fz' id:=CL ha (by simp[D7,h1,hv,Am]) []
                 dsimp only
                 rw[tm s hs id (by rw[hv];simp[Am])]
                 simp only[hun]
   |clear=>
    simp only[evalOp]
    cases h1:args.toList with
    |nil=>rfl
    |cons x r=>cases r with
     |cons z r=>rfl
     |nil=>
      have hx:=ops x (by rw[h1];simp)
      cases ts.toList with
      |nil=>rfl
      |cons T r=>cases r with
       |cons T' r=>rfl
       |nil=>
        dsimp only
        cases sliceAt P T with
        |none=>rfl
        |some p=>
         obtain⟨e,t⟩:=p
         dsimp only
         cases zeroAt P e with
         |none=>rfl
         |some zz=>
          dsimp only
          cases hv:ρ x<;>try rfl
          ·rename_i id
           have hun:Aj fz id=Aj fz' id:=CL ha (by simp[D7,h1,hv,Am]) []
           dsimp only
           rw[own x hx id hv]
           simp only[hun]
          ·rename_i id off n
           have hun:Aj fz id=Aj fz' id:=CL ha (by simp[D7,h1,hv,Am]) []
           simp only[win x hx id off n hv,hun]
   |_=>rfl
 |makeFunc fn first cs=>cases fn<;>rfl
 |_=>rfl
theorem AKx{R:Type}(hL:JT E){ρ:Operand→AV}(o:Op)(ty:TypeId){H H':List Ob}{fz fz':List Bool}{slot:Nat}(k:AV→Eff→Option R)
  (ha:TD (Ek ρ o) slot (slotsOf o) (D7 ρ o) H H' fz fz') (hl:Gd E ρ o=true):evalOp P E R o ty ρ H fz slot k=evalOp P E R o ty ρ H' fz' slot k:=by
 cases o with
 |move x=>rfl
 |assign x=>rfl
 |pick c a b=>rfl
 |extract x i=>rfl
 |build T ps=>rfl
 |makeFunc f a b=>cases f<;>rfl
 |store T x y=>
  by_cases hp:∃ id off,ρ x = .ptr id off
  ·obtain⟨id,off,hx⟩:=hp
   have hid:=ha.heap id (by simp only[Ek,hx];simp)
   simp only[evalOp,hx,hid]
  ·have e:Ek ρ (.store T x y)=G5 ρ (.store T x y):=by
    simp only[Ek]
    split
    ·rename_i id off hx;exact absurd ⟨id,off,hx⟩ hp
    ·rfl
   rw[e]at ha
   exact PO hL (.store T x y) ty k ha hl
 |_=>exact PO hL _ ty k ha hl
theorem AGp{l:List AV}{id:Nat}(h:id∈BH l):∃ v∈l,id∈Am v:=by
 induction l with
 |nil=>simp[BH]at h
 |cons a l ih=>
  simp only[BH,AjL]at h
  rcases h with h|h
  ·exact⟨a,by simp,h⟩
  ·obtain⟨v,hv,hi⟩:=ih h;exact⟨v,by simp[hv],hi⟩
theorem CX{l:List AV}{v:AV}{id:Nat}(hv:v∈l)(h:id∈Am v):id∈BH l:=by
 induction l with
 |nil=>cases hv
 |cons a l ih=>
  simp only[BH,AjL]
  rcases AjN.1 hv with rfl|hv
  ·exact .inl h
  ·exact .inr (ih hv)
theorem APm{R:Type}(hL:JT E){ρ:Operand→AV}{φ:List Nat}(o:Op)(ty:TypeId){H H':List Ob}{fz fz':List Bool}{slot:Nat}(k:AV→Eff→Option R)(hw:Me E ρ o φ H=true)
  (ha:TD (φ.map (· / 2)) slot (slotsOf o) (φ.map (· / 2)) H H' fz fz'):evalOp P E R o ty ρ H fz slot k=evalOp P E R o ty ρ H' fz' slot k:=by
 unfold Me at hw
 simp only[AjK]at hw
 obtain⟨⟨⟨h1,h2⟩,h3⟩,h4⟩:=hw
 unfold VE at h4
 split at h4
 ·rename_i f args ts
  split at h4
  ·rename_i g caps hf
   simp only[evalOp,hf]
   have wtS:∀ {i:Nat},wt φ i=true→i∈φ.map (· / 2):=by
    intro i hi
    unfold wt at hi
    simp only[Ak3,AjJ]at hi
    exact Aja.2 ⟨_,hi,by omega⟩
   refine hL.2 g h4 R _ H H' fz fz' slot k (φ.map (· / 2)) (fun id hid => ?_) (fun id hid cs hc j hj => ?_) ⟨ha.heap,ha.slotH,ha.slotF,ha.len,ha.wrF⟩
   ·rw[Ajd]at h1
    refine wtS (h1 id ?_)
    unfold G5
    rw[AmX]
    obtain⟨v,hv,hi⟩:=AGp hid
    rcases AjL.1 hv with hv|hv
    ·obtain⟨x,hx,rfl⟩:=Aja.1 hv
     exact⟨x,by simp[Op.operands,Call.operands];right;simpa using hx,hi⟩
    ·exact⟨f,by simp[Op.operands,Call.operands],by rw[hf];simp only[Am];exact CX hv hi⟩
   ·unfold Of at h2
    rw[Ajd]at h2
    obtain⟨c,hcφ,rfl⟩:=Aja.1 hid
    have:=h2 c hcφ
    rw[hc]at this
    simp only[Ajd]at this
    exact wtS (this j hj)
  ·rename_i g caps hf
   simp only[evalOp,hf]
   have wtS:∀ {i:Nat},wt φ i=true→i∈φ.map (· / 2):=by
    intro i hi
    unfold wt at hi
    simp only[Ak3,AjJ]at hi
    exact Aja.2 ⟨_,hi,by omega⟩
   refine hL.2 g h4 R _ H H' fz fz' slot k (φ.map (· / 2)) (fun id hid => ?_) (fun id hid cs hc j hj => ?_) ⟨ha.heap,ha.slotH,ha.slotF,ha.len,ha.wrF⟩
   ·rw[Ajd]at h1
    refine wtS (h1 id ?_)
    unfold G5
    rw[AmX]
    obtain⟨v,hv,hi⟩:=AGp hid
    rcases(AjL.1 hv).symm with hv|hv
    ·obtain⟨x,hx,rfl⟩:=Aja.1 hv
     exact⟨x,by simp[Op.operands,Call.operands];right;simpa using hx,hi⟩
    ·exact⟨f,by simp[Op.operands,Call.operands],by rw[hf];simp only[Am];exact CX hv hi⟩
   ·unfold Of at h2
    rw[Ajd]at h2
    obtain⟨c,hcφ,rfl⟩:=Aja.1 hid
    have:=h2 c hcφ
    rw[hc]at this
    simp only[Ajd]at this
    exact wtS (this j hj)
  ·cases h4
 ·cases h4
end
end Go.Pev
end
section
namespace Go.Pev
open Go.RowKit
section
variable {P:Program} {E:Env}
def CF(all:List Oper)(g:Option (Nat×Bool))(st:St):Option Bool:=
 match g with
 |none=>some true
 |some (j,want)=>match(all[j]?).bind (·.dst)with
  |none=>none
  |some d=>match st.tmps[d]? with
   |some (.data .bool b)=>some (b==want)
   |some (.tup [])=>some false
   |_=>none
theorem AJC{l:List AV}{d:Nat}{v:AV}(h:l[d]? = some v):l.set d v=l:=by
 apply Ak5
 intro i
 by_cases hid:i=d
 ·subst hid
  rw[h,Akh (by
   rcases Aj5 i l.length with h'|h'
   ·exact h'
   ·rw[Ajo h']at h;cases h)]
 ·rw[Ajx (Ajy hid)]
theorem AKk{R:Type}{all:List Oper}{g:Option (Nat×Bool)}{st:St}{yes no:St→Option R}{r:R}(h:guarded R all g st yes no=some r):
  (CF all g st=some true∧yes st=some r)∨(CF all g st=some false∧no st=some r):=by
 unfold guarded at h
 unfold CF
 split at h
 ·exact .inl ⟨rfl,h⟩
 ·rename_i j want
  split at h
  ·cases h
  ·rename_i d hj
   simp only[hj]
   split at h
   ·rename_i b hd
    have hs:=AJC hd
    simp only[hd]
    split at h
    ·rw[hs]at h
     split at h
     ·exact .inl ⟨rfl,h⟩
     ·exact .inr ⟨rfl,h⟩
    ·rw[hs]at h
     split at h
     ·exact .inr ⟨rfl,h⟩
     ·exact .inl ⟨rfl,h⟩
   ·rename_i hd
    simp only[hd]
    exact .inr ⟨by first|rfl|trivial,h⟩
   ·cases h
def Kn(E:Env)(H:List Ob)(ρ:Operand→AV)(o:Op)(φ:List Nat):Prop:=(YL φ=true∧Me E ρ o φ H=true)∨(within (Ek ρ o) φ=true∧Qr (D7 ρ o) φ=true∧Gd E ρ o=true)
def Cc(P:Program)(E:Env)(all:List Oper)(o:Oper)(φ:List Nat)(slot:Nat)(st st1:St):Prop:=
 (CF all o.guard st=some true∧∃ v e,(Pg φ=true∨(Kn E st.heap (BW st.tmps) o.op φ∧AHY (writer o.op||YL φ) φ slot (slotsOf o.op) e=true)) ∧
  (∀ (R:Type) (k:AV→Eff→Option R),evalOp P E R o.op o.type (BW st.tmps) st.heap st.frz slot k=k v e)∧st1=(st.app e).put o.dst v) ∨
 (CF all o.guard st=some false∧st1=st.put o.dst BV)
theorem ARU(hE:∀ g,AR P g (E.spec g)){R:Type}{all:List Oper}{o:Oper}{φ:List Nat}{slot:Nat}{st:St}{k:St→Option R}{r:R}(h:XC P E R all o φ slot st k=some r):
  ∃ st1,Cc P E all o φ slot st st1∧k st1=some r:=by
 unfold XC at h
 rcases AKk h with⟨hg,h⟩|⟨hg,h⟩
 ·split at h
  ·rename_i hw
   simp only[AkW,AjK]at hw
   obtain⟨v,e,h1,h2,_⟩:=Ke hE o.op R _ _ _ _ _ _ _ h
   split at h1
   ·rename_i he
    rw[AkW]at he
    refine⟨_,.inl ⟨hg,v,e,?_,h2,rfl⟩,h1⟩
    rcases hw with hw|hw
    ·exact .inl hw
    ·rcases he with he|he
     ·exact .inl he
     ·refine .inr ⟨?_,he⟩
      rcases hw with hw|hw
      ·exact .inl hw
      ·exact .inr ⟨hw.2.1.1,hw.2.1.2,hw.2.2⟩
   ·cases h1
  ·cases h
 ·exact⟨_,.inr ⟨hg,rfl⟩,h⟩
def AH0(P:Program)(E:Env)(all:List Oper)(fp:Nat→List Nat)(sl:Nat→Nat):List Nat→St→St→Prop
 |[],st,st'=>st=st'
 |i::l,st,st'=>∃ o s1,all[i]? = some o∧Cc P E all o (fp i) (sl i) st s1∧AH0 P E all fp sl l s1 st'
def B8(all:List Oper)(base i:Nat):Nat:=base+FE (all.take i)
theorem LI(a b:List Oper):FE (a++b)=FE a+FE b:=by
 unfold FE
 induction a with
 |nil=>simp
 |cons x a ih=>simp only[Ajm,Ajr,List.foldr_cons,ih];omega
theorem AFG(hE:∀ g,AR P g (E.spec g)){R:Type}{all:List Oper}{fp:List (List Nat)}{base:Nat}{k:St→Option R}{r:R}:∀ (rest pre:List Oper) (fp':List (List Nat)) (slot:Nat) (st:St),
  all=pre++rest→fp'=fp.drop pre.length→slot=B8 all base pre.length→I5 P E R all rest fp' slot st k=some r →
  ∃ st',AH0 P E all (fun i=>fp.getD i []) (B8 all base) (List.range' pre.length rest.length) st st'∧k st'=some r:=by
 intro rest
 induction rest with
 |nil=>intro pre fp' slot st _ _ _ h;exact⟨st,rfl,h⟩
 |cons o rest ih=>
  intro pre fp' slot st hall hfp hsl h
  simp only[I5]at h
  obtain⟨s1,h1,h2⟩:=ARU hE h
  have hlen:(pre++[o]).length=pre.length+1:=by simp
  have hfp1:fp'.headD []=fp.getD pre.length []:=by
   rw[hfp,AjI,List.headD_eq_head?_getD,List.head?_drop]
  have hfp2:fp'.tail=fp.drop (pre++[o]).length:=by rw[hfp,hlen,List.tail_drop]
  have hs2:slot+slotsOf o.op=B8 all base (pre++[o]).length:=by
   rw[hsl,hlen]
   unfold B8
   have e1:all.take (pre.length+1)=pre++[o]:=by rw[hall,AlM,AkQ (by omega)];simp
   have e2:all.take pre.length=pre:=by rw[hall];simp
   rw[e1,e2,LI]
   simp[FE];omega
  obtain⟨st',h3,h4⟩:=ih (pre++[o]) _ _ s1 (by rw[hall];simp) hfp2 hs2 h2
  refine⟨st',?_,h4⟩
  rw[AjR,AmW]
  refine⟨o,s1,by rw[hall];simp,?_,by rw[hlen]at h3;exact h3⟩
  show Cc P E all o (fp.getD pre.length []) (B8 all base pre.length) st s1
  rw[← hfp1,← hsl];exact h1
theorem XH:∀ (l:List (Nat×Ob)) (H:List Ob),(A9 l H).length=H.length:=by
 intro l
 induction l with
 |nil=>intro H;rfl
 |cons p l ih=>intro H;obtain⟨i,o⟩:=p;simp only[A9];rw[ih,AkL]
theorem BY{i:Nat}:∀ (l:List (Nat×Ob)) (H:List Ob),(∀ p∈l,p.1≠i)→(A9 l H)[i]? = H[i]? := by
 intro l
 induction l with
 |nil=>intro H _;rfl
 |cons p l ih=>
  intro H h
  obtain⟨j,o⟩:=p
  simp only[A9]
  rw[ih _ fun p hp=>h p (by simp[hp]),Ab (Ajy (h (j,o) (by simp)))]
theorem GX{i:Nat}:∀ (l:List (Nat×Ob)) (H H':List Ob),H[i]? = H'[i]?→(A9 l H)[i]? = (A9 l H')[i]? := by
 intro l
 induction l with
 |nil=>intro H H' h;exact h
 |cons p l ih=>
  intro H H' h
  obtain⟨j,o⟩:=p
  simp only[A9]
  refine ih _ _ ?_
  by_cases hij:i=j
  ·subst hij
   rw[List.getElem?_set_self',List.getElem?_set_self',h]
  ·rw[Ab hij,Ab hij];exact h
theorem AJD(a b:List (Nat×Ob))(h:∀ p∈a,∀ q∈b,p.1≠q.1)(H:List Ob):A9 a (A9 b H)=A9 b (A9 a H):=by
 apply Ak5
 intro i
 by_cases ha:∀ p∈a,p.1≠i
 ·rw[BY a _ ha]
  exact GX b _ _ (BY a _ ha).symm
 ·have hb:∀ q∈b,q.1≠i:=by
   intro q hq hqi
   refine ha fun p hp hpi=>h p hp q hq (by rw[hpi,hqi])
  rw[BY b _ hb]
  exact GX a _ _ (BY b _ hb)
theorem AMs(a b:List Nat)(fz:List Bool):Ak a (Ak b fz)=Ak b (Ak a fz):=by
 apply Ak5
 intro i
 have hl:∀ (x:List Bool) (y:List Bool),x.length=y.length→(∀ i,x.getD i false=y.getD i false)→x[i]? = y[i]? := by
  intro x y hlen hg
  have:=hg i
  rw[AjI,AjI]at this
  rcases Aj5 i x.length with h|h
  ·rw[AjM h,AjM (hlen▸h)]at this ⊢
   simpa using this
  ·rw[Ajo h,Ajo (hlen▸h)]
 refine hl _ _ (by simp[C1]) fun i => ?_
 rw[Ax,Ax,Ax,Ax,C1,C1]
 cases fz.getD i false<;>cases decide (i∈a)<;>cases decide (i∈b)<;>cases decide (i<fz.length)<;>rfl
theorem ZQ{l φ:List Nat}(h:within l φ=true){i:Nat}(hi:i∈l):rd φ i=true:=by
 unfold within at h
 rw[Ajd]at h
 exact h i hi
theorem ALt{l φ:List Nat}(h:Qr l φ=true){i:Nat}(hi:i∈l):wt φ i=true:=by
 unfold Qr at h
 rw[Ajd]at h
 exact h i hi
theorem KN{φ:List Nat}{i:Nat}(h:wt φ i=true):rd φ i=true:=by
 unfold wt at h;unfold rd;rw[h];simp
theorem Lp{wr:Bool}{φ:List Nat}{slot n:Nat}{e:Eff}(h:AHY wr φ slot n e=true):e.heap=none∧(∀ p∈e.objs,(slot≤p.1∧p.1<slot+n)∨(wr=true∧wt φ p.1=true))∧∀ i∈e.frz,rd φ i=true:=by
 unfold AHY at h
 simp only[AjK]at h
 obtain⟨⟨h1,h2⟩,h3⟩:=h
 refine⟨by simpa using h1,fun p hp => ?_,fun i hi=>ZQ h3 hi⟩
 rw[Ajd]at h2
 have:=h2 p hp
 simp only[AkW,AjK,AjJ]at this
 rcases this with h|h
 ·exact .inl h
 ·exact .inr h
theorem CJ{e:Eff}(h:e.heap=none)(H:List Ob):CS e H=A9 e.objs H:=by unfold CS;rw[h]
theorem CV{e:Eff}(h:e.heap=none)(F:List Bool):GN e F=Ak e.frz F:=by unfold GN;rw[h]
theorem B6{all:List Oper}{x y:Oper}(hap:apart? all x y=true)(st:St)(v:AV):∀ z∈y.op.operands,BW (st.put x.dst v).tmps z=BW st.tmps z:=by
 obtain⟨h1,_,_⟩:=Oper.apart_spec hap
 intro z hz
 cases hd:x.dst with
 |none=>rfl
 |some d=>
  cases z with
  |tmp t=>
   have hne:d≠t:=by
    rintro rfl
    refine h1 d hd ?_
    unfold Oper.looksAt
    refine List.mem_append_left _ ?_
    rw[List.mem_filterMap]
    exact⟨.tmp d,by simpa using hz,rfl⟩
   simp[BW,St.put,Ajx hne]
  |const v=>rfl
  |global g=>rfl
  |func f=>rfl
theorem Gz{all:List Oper}{x y:Oper}(hap:apart? all x y=true)(st:St)(v:AV)(H:List Ob)(F:List Bool):CF all y.guard ({ st with heap:=H,frz:=F }.put x.dst v)=CF all y.guard st:=by
 obtain⟨h1,_,_⟩:=Oper.apart_spec hap
 unfold CF
 cases hg:y.guard with
 |none=>rfl
 |some p=>
  obtain⟨j,want⟩:=p
  dsimp only
  cases hj:(all[j]?).bind (·.dst)with
  |none=>rfl
  |some d=>
   dsimp only
   cases hd:x.dst with
   |none=>rfl
   |some d'=>
    have hne:d'≠d:=by
     rintro rfl
     refine h1 d' hd ?_
     unfold Oper.looksAt
     refine List.mem_append_right _ ?_
     simp[hg]
     exact hj
    simp[St.put,Ajx hne]
theorem St.put_comm(st:St){x y:Option Tmp}(v u:AV)(h:∀ d,x=some d→y≠some d):(st.put x v).put y u=(st.put y u).put x v:=by
 cases x with
 |none=>rfl
 |some d=>
  cases y with
  |none=>rfl
  |some d'=>
   have hne:d≠d':=fun e=>h d rfl (e▸rfl)
   simp only[St.put]
   rw[List.set_comm _ _ hne]
theorem St.L3(st:St)(e:Eff)(d:Option Tmp)(v:AV):(st.put d v).app e=(st.app e).put d v:=by cases d<;>rfl
theorem AcY{φ:List Nat}{i:Nat}(h:rd φ i=true):∃ c∈φ,c/2=i:=by
 unfold rd at h
 simp only[AkW,Ak3,AjJ]at h
 rcases h with h|h
 ·exact⟨_,h,by omega⟩
 ·exact⟨_,h,by omega⟩
theorem AO8{all:List Oper}{x y:Oper}{φx φy:List Nat}{sx sy:Nat}(h:indep all x y φx φy sx sy=true):
  apart? all x y=true∧((YL φx=false∧YL φy=false∧ZB x.op y.op=true)∨(Pg φx=true∧Bo y.op=true)∨(Pg φy=true∧Bo x.op=true)∨Pg φx=false∧Pg φy=false∧(∀ i,rd φy i=true→¬ (sx≤i∧i<sx+slotsOf x.op))∧(∀ i,rd φx i=true→¬ (sy≤i∧i<sy+slotsOf y.op))∧(∀ i,wt φx i=true→rd φy i=true→False)∧(∀ i,wt φy i=true→rd φx i=true→False)):=by
 unfold indep at h
 rw[AjK]at h
 obtain⟨h1,h⟩:=h
 refine⟨h1,?_⟩
 simp only[AkW,AjK,Akn]at h
 rcases h with((h|h)|h)|h
 ·exact .inr (.inl h)
 ·exact .inr (.inr (.inl h))
 rotate_left
 ·exact .inl ⟨h.1,h.2.1,h.2.2⟩
 obtain⟨⟨⟨⟨⟨hx,hy⟩,h2⟩,h3⟩,h4⟩,h5⟩:=h
 refine .inr (.inr (.inr ⟨hx,hy,?_⟩))
 rw[Ajd]at h2 h3 h4 h5
 have own:∀ {φ:List Nat} {s n:Nat},(∀ c∈φ,(!(decide (s≤c/2)&&decide (c/2<s+n)))=true)→∀ i,rd φ i=true→¬ (s≤i∧i<s+n):=by
  intro φ s n h i hi
  obtain⟨c,hc,rfl⟩:=AcY hi
  have:=h c hc
  simp at this
  omega
 have wr:∀ {φ ψ:List Nat},(∀ c∈φ,(decide (c % 2=0) || !(rd ψ (c/2)))=true)→∀ i,wt φ i=true→rd ψ i=true→False:=by
  intro φ ψ h i hi hr
  unfold wt at hi
  simp only[Ak3,AjJ]at hi
  have:=h _ hi
  have e1:(2*i+1) % 2=1:=by omega
  have e2:(2*i+1)/2=i:=by omega
  rw[e1,e2,hr]at this
  simp at this
 exact⟨own h2,own h3,wr h4,wr h5⟩
theorem L4{all:List Oper}{x y:Oper}(h:apart? all x y=true):apart? all y x=true:=by
 obtain⟨h1,h2,h3⟩:=Oper.apart_spec h
 unfold apart? Oper.apart
 rw[AjK]
 constructor
 ·cases hy:y.dst with
  |none=>rfl
  |some d=>
   have a:=h3 d hy
   have b:x.dst≠some d:=fun e=>h2 d e hy
   simp[a,b]
 ·cases hx:x.dst with
  |none=>rfl
  |some d=>simpa using h1 d hx
theorem AFw{φ:List Nat}{H H':List Ob}(h:∀ i,rd φ i=true→H[i]? = H'[i]?):Of φ H=Of φ H':=by
 unfold Of
 rw[Alb,Ajd,Ajd]
 have e:∀ c∈φ,H[c/2]? = H'[c/2]? := by
  intro c hc
  refine h _ ?_
  unfold rd
  simp only[AkW,Ak3,AjJ]
  rcases Nat.mod_two_eq_zero_or_one c with h'|h'
  ·left;rw[show 2*(c/2)=c from by omega];exact hc
  ·right;rw[show 2*(c/2)+1=c from by omega];exact hc
 constructor<;>intro hh c hc
 ·rw[← e c hc];exact hh c hc
 ·rw[e c hc];exact hh c hc
theorem ALc{ρ:Operand→AV}{o:Op}{φ:List Nat}{H H':List Ob}(h:∀ i,rd φ i=true→H[i]? = H'[i]?)(hk:Kn E H ρ o φ):Kn E H' ρ o φ:=by
 rcases hk with⟨h1,h2⟩|hk
 ·refine .inl ⟨h1,?_⟩
  unfold Me at *
  rw[← AFw h];exact h2
 ·exact .inr hk
theorem AHQ{x:Oper}{φx φy:List Nat}{sx:Nat}(h1:∀ i,rd φy i=true→¬ (sx≤i∧i<sx+slotsOf x.op))(h3:∀ i,wt φx i=true→rd φy i=true→False){st:St}{vx:AV}{ex:Eff}{bx:Bool}(hex:AHY bx φx sx (slotsOf x.op) ex=true):
  ∀ i,rd φy i=true→((st.app ex).put x.dst vx).heap[i]? = st.heap[i]? := by
 intro i hi
 obtain⟨q1,q2,q3⟩:=Lp hex
 have hheap:((st.app ex).put x.dst vx).heap=A9 ex.objs st.heap:=by cases x.dst<;>exact CJ q1 _
 rw[hheap]
 refine BY _ _ fun p hp => ?_
 rintro rfl
 rcases q2 p hp with h|⟨_,h⟩
 ·exact h1 _ hi h
 ·exact h3 _ h hi
theorem AGT(hL:JT E){all:List Oper}{x y:Oper}{φx φy:List Nat}{sx sy:Nat}(hap:apart? all x y=true)(h1:∀ i,rd φy i=true→¬ (sx≤i∧i<sx+slotsOf x.op))
  (h2:∀ i,rd φx i=true→¬ (sy≤i∧i<sy+slotsOf y.op)) (h3:∀ i,wt φx i=true→rd φy i=true→False) (h4:∀ i,wt φy i=true→rd φx i=true→False) (hsl:sx+slotsOf x.op≤sy∨sy+slotsOf y.op≤sx)
  {st:St} {vx:AV} {ex:Eff} {bx:Bool} (hex:AHY bx φx sx (slotsOf x.op) ex=true) (hk:Kn E ((st.app ex).put x.dst vx).heap (BW st.tmps) y.op φy∨Kn E st.heap (BW st.tmps) y.op φy) :
  ∀ (R:Type) (k:AV→Eff→Option R),evalOp P E R y.op y.type (BW ((st.app ex).put x.dst vx).tmps) ((st.app ex).put x.dst vx).heap ((st.app ex).put x.dst vx).frz sy k=evalOp P E R y.op y.type (BW st.tmps) st.heap st.frz sy k:=by
 intro R k
 obtain⟨q1,q2,q3⟩:=Lp hex
 have hput:∀ z∈y.op.operands,BW ((st.app ex).put x.dst vx).tmps z=BW st.tmps z:=fun z hz=>by
  have:=B6 hap (st.app ex) vx z hz
  exact this
 have hheap:((st.app ex).put x.dst vx).heap=A9 ex.objs st.heap:=by cases x.dst<;>exact CJ q1 _
 have hfrz:((st.app ex).put x.dst vx).frz=Ak ex.frz st.frz:=by cases x.dst<;>exact CV q1 _
 rw[hheap]at hk
 rw[hheap,hfrz]
 have hsame:∀ i,rd φy i=true→(A9 ex.objs st.heap)[i]? = st.heap[i]? := by
  intro i hi
  refine BY _ _ fun p hp => ?_
  rintro rfl
  rcases q2 p hp with h|⟨_,h⟩
  ·exact h1 _ hi h
  ·exact h3 _ h hi
 have hkn:Kn E st.heap (BW st.tmps) y.op φy:=hk.elim (fun h=>ALc hsame h) fun h=>h
 rcases hkn with⟨_,hw⟩|⟨hw,hww,hl⟩
 ·rw[Bu y.op y.type _ _ sy k hput]
  symm
  have wtS:∀ c∈φy,wt φy (c/2)=true:=by
   intro c hc
   unfold Me at hw
   simp only[AjK]at hw
   have:=hw.1.2
   rw[Ajd]at this
   have:=this c hc
   simp only[Akz]at this
   unfold wt
   simp only[Ak3,AjJ]
   rw[show 2*(c/2)+1=c from by omega]
   exact hc
  refine APm hL y.op y.type k hw ⟨fun id hid => ?_,fun s a1 a2 => ?_,fun s a1 a2 => ?_,(C1 _ _).symm,fun id hid => ?_⟩
  ·obtain⟨c,hc,rfl⟩:=Aja.1 hid
   exact(hsame _ (KN (wtS c hc))).symm
  ·symm
   refine BY _ _ fun p hp => ?_
   rintro rfl
   rcases q2 p hp with h|⟨hwx,h⟩
   ·omega
   ·exact h2 _ (KN h) ⟨a1,a2⟩
  ·rw[Ax]
   have:s∉ex.frz:=fun h=>h2 _ (q3 s h) ⟨a1,a2⟩
   simp[this]
  ·obtain⟨c,hc,rfl⟩:=Aja.1 hid
   rw[Ax]
   have:c/2∉ex.frz:=fun h=>h4 _ (wtS c hc) (q3 _ h)
   simp[this]
 have hag:TD (Ek (BW st.tmps) y.op) sy (slotsOf y.op) (D7 (BW st.tmps) y.op) (A9 ex.objs st.heap) st.heap (Ak ex.frz st.frz) st.frz:=by
  refine⟨fun id hid => ?_,fun s a1 a2 => ?_,fun s a1 a2 => ?_,C1 _ _,fun id hid => ?_⟩
  ·have hφ:=ZQ hw hid
   refine BY _ _ fun p hp => ?_
   rintro rfl
   rcases q2 p hp with h|⟨hwx,h⟩
   ·exact h1 _ hφ h
   ·exact h3 _ h hφ
  ·refine BY _ _ fun p hp => ?_
   rintro rfl
   rcases q2 p hp with h|⟨hwx,h⟩
   ·omega
   ·exact h2 _ (KN h) ⟨a1,a2⟩
  ·rw[Ax]
   have:s∉ex.frz:=fun h=>h2 _ (q3 s h) ⟨a1,a2⟩
   simp[this]
  ·rw[Ax]
   have hφ:=ALt hww hid
   have:id∉ex.frz:=fun h=>h4 _ hφ (q3 id h)
   simp[this]
 rw[Bu y.op y.type _ _ sy k hput]
 exact AKx hL y.op y.type k hag hl
theorem AIU{ρ ρ':Operand→AV}{o:Op}(h:∀ z∈o.operands,ρ z=ρ' z):D7 ρ o=D7 ρ' o:=by
 unfold D7
 split
 ·rw[h _ (by simp[Op.operands])]
 ·rw[h _ (by simp[Op.operands])]
 ·rw[h _ (by simp[Op.operands])]
 ·rw[h _ (by simp[Op.operands])]
 ·rw[h _ (by simp[Op.operands])]
 ·rename_i args ts
  cases ha:args.toList with
  |nil=>rfl
  |cons s r=>
   have:s∈args:=by
    have:s∈args.toList:=by rw[ha];simp
    simpa using this
   simp only
   rw[h s (by simp[Op.operands,Call.operands];exact this)]
 ·rename_i args ts
  cases ha:args.toList with
  |nil=>rfl
  |cons s r=>
   have:s∈args:=by
    have:s∈args.toList:=by rw[ha];simp
    simpa using this
   simp only
   rw[h s (by simp[Op.operands,Call.operands];exact this)]
 ·rfl
theorem Kx{ρ ρ':Operand→AV}{o:Op}(h:∀ z∈o.operands,ρ z=ρ' z):G5 ρ o=G5 ρ' o:=by
 unfold G5
 have key:∀ l:List Operand,(∀ z∈l,ρ z=ρ' z)→(l.flatMap fun x=>Am (ρ x))=l.flatMap fun x=>Am (ρ' x):=by
  intro l
  induction l with
  |nil=>intro _;rfl
  |cons x l ih=>intro h;rw[Aky,Aky,h x (by simp),ih fun z hz=>h z (by simp[hz])]
 exact key _ fun z hz=>h z (by simpa using hz)
theorem AMJ{ρ ρ':Operand→AV}{o:Op}(h:∀ z∈o.operands,ρ z=ρ' z):Ek ρ o=Ek ρ' o:=by
 cases o with
 |store T x y=>
  simp only[Ek]
  rw[h x (by simp[Op.operands]),Kx h]
 |move x=>rfl
 |assign x=>rfl
 |pick c a b=>rfl
 |extract x i=>rfl
 |build T ps=>rfl
 |makeFunc f a b=>rfl
 |_=>exact Kx h
theorem AFW{ρ ρ':Operand→AV}{o:Op}(h:∀ z∈o.operands,ρ z=ρ' z):Gd E ρ o=Gd E ρ' o:=by
 unfold Gd
 split
 ·rename_i f args ts
  rw[h f (by simp[Op.operands,Call.operands])]
 ·rfl
theorem G3{H:List Ob}{ρ ρ':Operand→AV}{o:Op}{φ:List Nat}(h:∀ z∈o.operands,ρ z=ρ' z)(hk:Kn E H ρ o φ):Kn E H ρ' o φ:=by
 rcases hk with⟨h0,hk⟩|⟨h1,h2,h3⟩
 ·refine .inl ⟨h0,?_⟩
  have e:VE E ρ o=VE E ρ' o:=by
   unfold VE
   split
   ·rename_i f args ts
    rw[h f (by simp[Op.operands,Call.operands])]
   ·rfl
  unfold Me at *
  rw[← e,← Kx h];exact hk
 ·rw[AMJ h]at h1
  rw[AIU h]at h2
  rw[AFW h]at h3
  exact .inr ⟨h1,h2,h3⟩
theorem PL{R:Type}{o:Op}(h:Bo o=true)(ty:TypeId)(ρ:Operand→AV)(H H':List Ob)(fz fz':List Bool)(slot:Nat)(k:AV→Eff→Option R):
  evalOp P E R o ty ρ H fz slot k=evalOp P E R o ty ρ H' fz' slot k:=by
 cases o<;>first|rfl|(simp only[Bo,Ajf]at h)
theorem Lm{o:Op}(h:Bo o=true)(ty:TypeId)(ρ:Operand→AV)(H:List Ob)(fz:List Bool)(slot:Nat){v:AV}{e:Eff}
  (hk:∀ (R:Type) (k:AV→Eff→Option R),evalOp P E R o ty ρ H fz slot k=k v e):e = {}:=by
 have:=hk Eff (fun _ e=>some e)
 cases o<;>first|(simp only[Bo,Ajf]at h;done)|skip
 all_goals
  simp only[evalOp]at this
  repeat' split at this
  all_goals first|(cases this;done)|(simp only[AjH]at this;exact this.symm)
theorem ADO{o:Op}(h:GD o=true)(ty:TypeId)(ρ:Operand→AV)(H:List Ob)(fz:List Bool)(slot:Nat){v:AV}{e:Eff}
  (hk:∀ (R:Type) (k:AV→Eff→Option R),evalOp P E R o ty ρ H fz slot k=k v e):e = {}:=by
 by_cases hh:Bo o=true
 ·exact Lm hh ty ρ H fz slot hk
 have:=hk Eff (fun _ e=>some e)
 cases o with
 |call c=>
  obtain⟨callee,args,ts⟩:=c
  cases callee with
  |builtin b=>
   cases b<;>first|(simp only[GD,Bo,Ajf]at h;done)|skip
   simp only[evalOp]at this
   repeat' split at this
   all_goals first|(cases this;done)|(simp only[AjH]at this;exact this.symm)
  |_=>simp only[GD,Bo,Ajf]at h
 |slice T x lo hi mx=>
  cases mx with
  |some m=>simp only[GD,Bo,Ajf]at h
  |none=>
   simp only[evalOp,GW]at this
   repeat' split at this
   all_goals first|(cases this;done)|(simp only[AjH]at this;exact this.symm)
 |makeFunc fn first cs=>
  cases fn<;>first|(simp only[GD,Bo,Ajf]at h;done)|skip
  simp only[evalOp]at this
  repeat' split at this
  all_goals first|(cases this;done)|(simp only[AjH]at this;exact this.symm)
 |load _ _|convert _ _ _|fieldAddr _ _ _|field _ _ _|indexAddr _ _ _|index _ _ _|nilCheck _|lookup _ _ _ _|build _ _=>
  simp only[evalOp]at this
  repeat' split at this
  all_goals first|(cases this;done)|(simp only[AjH]at this;exact this.symm)
 |_=>first|exact absurd h hh|(simp only[GD,Bo,Ajf]at h;done)|exact absurd rfl hh
theorem AXS{H:List Ob}{ρ:Operand→AV}{o:Op}{φ:List Nat}(h:Bo o=true)(hk:Kn E H ρ o φ):within (Ek ρ o) φ=true∧Qr (D7 ρ o) φ=true∧Gd E ρ o=true:=by
 rcases hk with⟨_,hk⟩|hk
 ·exfalso
  unfold Me at hk
  simp only[AjK]at hk
  have:=hk.2
  unfold VE at this
  split at this
  ·cases h
  ·cases this
 ·exact hk
theorem ARS{all:List Oper}{x y:Oper}{φx φy:List Nat}{sx sy:Nat}(hap:apart? all x y=true)(hn:Pg φx=true)(hl:Bo y.op=true)
  {st s1 s2:St} (hx:Cc P E all x φx sx st s1) (hy:Cc P E all y φy sy s1 s2):∃ s1',Cc P E all y φy sy st s1'∧Cc P E all x φx sx s1' s2:=by
 have hap':=L4 hap
 obtain⟨_,hdd,_⟩:=Oper.apart_spec hap
 have gx:∀ (v:AV) (H:List Ob) (F:List Bool) (s:St),CF all y.guard ({ s with heap:=H,frz:=F }.put x.dst v)=CF all y.guard s:=fun v H F s=>Gz hap s v H F
 have gy:∀ (v:AV) (H:List Ob) (F:List Bool) (s:St),CF all x.guard ({ s with heap:=H,frz:=F }.put y.dst v)=CF all x.guard s:=fun v H F s=>Gz hap' s v H F
 have first:∀ (s1:St),(∀ z∈y.op.operands,BW s1.tmps z=BW st.tmps z)→CF all y.guard s1=CF all y.guard st→Cc P E all y φy sy s1 s2→∃ vy,Cc P E all y φy sy st (st.put y.dst vy)∧s2=s1.put y.dst vy:=by
  intro s1 hput hg hy
  rcases hy with⟨g2,vy,ey,hqy,b3,rfl⟩|⟨g2,rfl⟩
  ·have he:=Lm hl _ _ _ _ _ b3
   subst he
   refine⟨vy,.inl ⟨by rw[← hg];exact g2,vy,{},?_,fun R k => ?_,rfl⟩,rfl⟩
   ·rcases hqy with h|⟨h1,h4⟩
    ·exact .inl h
    ·exact .inr ⟨.inr (AXS hl (G3 hput h1)),h4⟩
   ·rw[← b3 R k,Bu y.op y.type _ _ sy k hput]
    exact PL hl _ _ _ _ _ _ _ _
  ·exact⟨BV,.inr ⟨by rw[← hg];exact g2,rfl⟩,rfl⟩
 have put1:∀ (v:AV) (s:St),∀ z∈y.op.operands,BW (s.put x.dst v).tmps z=BW s.tmps z:=fun v s z hz=>B6 hap s v z hz
 rcases hx with⟨g1,vx,ex,hqx,a3,rfl⟩|⟨g1,rfl⟩
 ·obtain⟨vy,h1,rfl⟩:=first _ (put1 vx (st.app ex)) (gx vx (CS ex st.heap) (GN ex st.frz) st) hy
  refine⟨_,h1,.inl ⟨?_,vx,ex,.inl hn,fun R k => ?_,?_⟩⟩
  ·rw[show CF all x.guard (st.put y.dst vy)=CF all x.guard st from gy vy st.heap st.frz st];exact g1
  ·have hh:(st.put y.dst vy).heap=st.heap∧(st.put y.dst vy).frz=st.frz:=by cases y.dst<;>exact⟨rfl,rfl⟩
   rw[hh.1,hh.2,Bu x.op x.type _ _ sx k fun z hz=>B6 hap' st vy z hz]
   exact a3 R k
  ·rw[St.L3,St.put_comm _ vx vy hdd]
 ·obtain⟨vy,h1,rfl⟩:=first _ (put1 BV st) (gx BV st.heap st.frz st) hy
  refine⟨_,h1,.inr ⟨?_,?_⟩⟩
  ·rw[show CF all x.guard (st.put y.dst vy)=CF all x.guard st from gy vy st.heap st.frz st];exact g1
  ·rw[St.put_comm _ BV vy hdd]
theorem ARR{all:List Oper}{x y:Oper}{φx φy:List Nat}{sx sy:Nat}(hap:apart? all x y=true)(hn:Pg φy=true)(hl:Bo x.op=true)
  {st s1 s2:St} (hx:Cc P E all x φx sx st s1) (hy:Cc P E all y φy sy s1 s2):∃ s1',Cc P E all y φy sy st s1'∧Cc P E all x φx sx s1' s2:=by
 have hap':=L4 hap
 obtain⟨_,hdd,_⟩:=Oper.apart_spec hap
 have gx:∀ (v:AV) (s:St),CF all y.guard (s.put x.dst v)=CF all y.guard s:=fun v s=>Gz hap s v s.heap s.frz
 have gy:∀ (v:AV) (H:List Ob) (F:List Bool) (s:St),CF all x.guard ({ s with heap:=H,frz:=F }.put y.dst v)=CF all x.guard s:=fun v H F s=>Gz hap' s v H F
 have hh:∀ v:AV,(st.put x.dst v).heap=st.heap∧(st.put x.dst v).frz=st.frz:=fun v=>by cases x.dst<;>exact⟨rfl,rfl⟩
 have behind:∀ (s:St) (vx:AV),(∀ z∈x.op.operands,BW s.tmps z=BW st.tmps z)→CF all x.guard s=CF all x.guard st→Cc P E all x φx sx st (st.put x.dst vx)→(∃ v,Cc P E all x φx sx st (st.put x.dst v)):=fun s vx _ _ h=>⟨vx,h⟩
 have xs:∃ vx,s1=st.put x.dst vx∧∀ s:St,(∀ z∈x.op.operands,BW s.tmps z=BW st.tmps z)→CF all x.guard s=CF all x.guard st→Cc P E all x φx sx s (s.put x.dst vx):=by
  rcases hx with⟨g1,vx,ex,hqx,a3,rfl⟩|⟨g1,rfl⟩
  ·have he:=Lm hl _ _ _ _ _ a3
   subst he
   refine⟨vx,rfl,fun s hput hg=>.inl ⟨by rw[hg];exact g1,vx,{},?_,fun R k => ?_,rfl⟩⟩
   ·rcases hqx with h|⟨h1,h4⟩
    ·exact .inl h
    ·exact .inr ⟨.inr (AXS hl (G3 (fun z hz=>(hput z hz).symm) h1)),h4⟩
   ·rw[← a3 R k,Bu x.op x.type _ _ sx k hput]
    exact PL hl _ _ _ _ _ _ _ _
  ·exact⟨BV,rfl,fun s _ hg=>.inr ⟨by rw[hg];exact g1,rfl⟩⟩
 obtain⟨vx,rfl,hxs⟩:=xs
 have hput:∀ z∈y.op.operands,BW (st.put x.dst vx).tmps z=BW st.tmps z:=fun z hz=>B6 hap st vx z hz
 rcases hy with⟨g2,vy,ey,hqy,b3,rfl⟩|⟨g2,rfl⟩
 ·refine⟨(st.app ey).put y.dst vy,.inl ⟨by rw[← gx vx st];exact g2,vy,ey,.inl hn,fun R k => ?_,rfl⟩,?_⟩
  ·have:=b3 R k
   rw[(hh vx).1,(hh vx).2,Bu y.op y.type _ _ sy k hput]at this
   exact this
  ·have:=hxs ((st.app ey).put y.dst vy) (fun z hz=>B6 hap' (st.app ey) vy z hz) (gy vy (CS ey st.heap) (GN ey st.frz) st)
   rw[St.L3,St.put_comm _ vx vy hdd]
   exact this
 ·refine⟨st.put y.dst BV,.inr ⟨by rw[← gx vx st];exact g2,rfl⟩,?_⟩
  have:=hxs (st.put y.dst BV) (fun z hz=>B6 hap' st BV z hz) (gy BV st.heap st.frz st)
  rw[St.put_comm _ vx BV hdd]
  exact this
theorem ART(hL:JT E){all:List Oper}{x y:Oper}{φx φy:List Nat}{sx sy:Nat}(hap:apart? all x y=true)(n1:Pg φx=false)(n2:Pg φy=false)(i1:∀ i,rd φy i=true→¬ (sx≤i∧i<sx+slotsOf x.op))(i2:∀ i,rd φx i=true→¬ (sy≤i∧i<sy+slotsOf y.op))(i3:∀ i,wt φx i=true→rd φy i=true→False)(i4:∀ i,wt φy i=true→rd φx i=true→False)(hsl:sx+slotsOf x.op≤sy)
  {st s1 s2:St} (hx:Cc P E all x φx sx st s1) (hy:Cc P E all y φy sy s1 s2):∃ s1',Cc P E all y φy sy st s1'∧Cc P E all x φx sx s1' s2:=by
 have hap':=L4 hap
 obtain⟨_,hdd,_⟩:=Oper.apart_spec hap
 have gx:∀ (v:AV) (H:List Ob) (F:List Bool) (s:St),CF all y.guard ({ s with heap:=H,frz:=F }.put x.dst v)=CF all y.guard s:=fun v H F s=>Gz hap s v H F
 have gy:∀ (v:AV) (H:List Ob) (F:List Bool) (s:St),CF all x.guard ({ s with heap:=H,frz:=F }.put y.dst v)=CF all x.guard s:=fun v H F s=>Gz hap' s v H F
 have gxa:∀ v e,CF all y.guard ((st.app e).put x.dst v)=CF all y.guard st:=fun v e=>gx v (CS e st.heap) (GN e st.frz) st
 have gya:∀ v e,CF all x.guard ((st.app e).put y.dst v)=CF all x.guard st:=fun v e=>gy v (CS e st.heap) (GN e st.frz) st
 rcases hx with⟨g1,vx,ex,hqx,a3,rfl⟩|⟨g1,rfl⟩
 ·obtain⟨a1,a4⟩:=hqx.resolve_left (by rw[n1];simp)
  rcases hy with⟨g2,vy,ey,hqy,b3,rfl⟩|⟨g2,rfl⟩
  ·obtain⟨b1,b4⟩:=hqy.resolve_left (by rw[n2];simp)
   have hput:∀ z∈y.op.operands,BW ((st.app ex).put x.dst vx).tmps z=BW st.tmps z:=fun z hz=>B6 hap (st.app ex) vx z hz
   have b1:=G3 hput b1
   have ov:=AGT (P:=P) hL hap i1 i2 i3 i4 (.inl hsl) (vx:=vx) a4 (.inl b1)
   refine⟨(st.app ey).put y.dst vy,.inl ⟨by rw[← gxa vx ex];exact g2,vy,ey,.inr ⟨ALc (AHQ i1 i3 a4) b1,b4⟩,fun R k=>by rw[← ov R k];exact b3 R k,rfl⟩,?_⟩
   have hput':∀ z∈x.op.operands,BW ((st.app ey).put y.dst vy).tmps z=BW st.tmps z:=fun z hz=>B6 hap' (st.app ey) vy z hz
   have ov':=AGT (P:=P) hL hap' i2 i1 i4 i3 (.inr hsl) (st:=st) (vx:=vy) b4 (.inr a1)
   refine .inl ⟨by rw[gya vy ey];exact g1,vx,ex,.inr ⟨G3 (fun z hz=>(hput' z hz).symm) (ALc (fun i hi=>(AHQ i2 i4 b4 i hi).symm) a1),a4⟩,fun R k=>by rw[ov' R k];exact a3 R k,?_⟩
   obtain⟨p1,p2,p3⟩:=Lp a4
   obtain⟨r1,r2,r3⟩:=Lp b4
   have hdis:∀ p∈ey.objs,∀ q∈ex.objs,p.1≠q.1:=by
    intro p hp q hq he
    rcases r2 p hp with h|⟨hw,h⟩<;>rcases p2 q hq with h'|⟨hw',h'⟩
    ·omega
    ·exact i2 _ (KN h') (he▸h)
    ·exact i1 _ (KN h) (he▸h')
    ·exact i3 _ h' (he▸KN h)
   rw[St.L3,St.L3,St.put_comm _ vx vy hdd]
   congr 2
   unfold St.app
   rw[CJ p1,CJ r1,CV p1,CV r1,CJ r1,CJ p1,CV r1,CV p1,AJD _ _ hdis,AMs]
  ·refine⟨st.put y.dst BV,.inr ⟨by rw[← gxa vx ex];exact g2,rfl⟩,.inl ⟨?_,vx,ex,.inr ⟨?_,a4⟩,fun R k => ?_,?_⟩⟩
   ·rw[show CF all x.guard (st.put y.dst BV)=CF all x.guard st from gy BV st.heap st.frz st];exact g1
   ·have hh:(st.put y.dst BV).heap=st.heap:=by cases y.dst<;>rfl
    rw[hh]
    exact G3 (fun z hz=>(B6 hap' st BV z hz).symm) a1
   ·have hh:(st.put y.dst BV).heap=st.heap∧(st.put y.dst BV).frz=st.frz:=by cases y.dst<;>exact⟨rfl,rfl⟩
    rw[hh.1,hh.2,Bu x.op x.type _ _ sx k fun z hz=>B6 hap' st BV z hz]
    exact a3 R k
   ·rw[St.L3,St.put_comm _ vx BV hdd]
 ·rcases hy with⟨g2,vy,ey,hqy,b3,rfl⟩|⟨g2,rfl⟩
  ·obtain⟨b1,b4⟩:=hqy.resolve_left (by rw[n2];simp)
   have hh:(st.put x.dst BV).heap=st.heap∧(st.put x.dst BV).frz=st.frz:=by cases x.dst<;>exact⟨rfl,rfl⟩
   rw[hh.1]at b1
   have hput:∀ z∈y.op.operands,BW (st.put x.dst BV).tmps z=BW st.tmps z:=fun z hz=>B6 hap st BV z hz
   have b1:=G3 hput b1
   refine⟨(st.app ey).put y.dst vy,.inl ⟨by rw[← show CF all y.guard (st.put x.dst BV)=CF all y.guard st from gx BV st.heap st.frz st];exact g2,vy,ey,.inr ⟨b1,b4⟩,fun R k => ?_,rfl⟩,.inr ⟨by rw[gya vy ey];exact g1,?_⟩⟩
   ·have:=b3 R k
    rw[hh.1,hh.2,Bu y.op y.type _ _ sy k hput]at this
    exact this
   ·rw[St.L3,St.put_comm _ BV vy hdd]
  ·exact⟨st.put y.dst BV,.inr ⟨by rw[← show CF all y.guard (st.put x.dst BV)=CF all y.guard st from gx BV st.heap st.frz st];exact g2,rfl⟩,
    .inr ⟨by rw[show CF all x.guard (st.put y.dst BV)=CF all x.guard st from gy BV st.heap st.frz st];exact g1,St.put_comm _ BV BV hdd⟩⟩
def AXQ(H H':List Ob)(id:Nat):Prop:=(∃ a b es,H[id]? = some (.map a b es))∧∃ a b es,H'[id]? = some (.map a b es)
theorem E2{H H':List Ob}(h:∀ id,H[id]? = H'[id]?∨AXQ H H' id)(t:Ty)(v:AV):Dl H t v=Dl H' t v:=by
 cases v<;>simp only[Dl]
 ·rename_i id
  rcases h id with h|⟨⟨a,b,es,h1⟩,a',b',es',h2⟩
  ·rw[h]
  ·rw[h1,h2]
 ·rename_i id off n
  rcases h id with h|⟨⟨a,b,es,h1⟩,a',b',es',h2⟩
  ·rw[h]
  ·rw[h1,h2]
 ·rename_i id
  rcases h id with h|⟨⟨a,b,es,h1⟩,a',b',es',h2⟩
  ·rw[h]
  ·rw[h1,h2]
theorem AZ0{α:Type}{one one':List AV→Option (α×List Nat×List AV)}(h1:∀ cs,one cs=one' cs):∀ (n:Nat) (cs:List AV),Rs one n cs=Rs one' n cs:=by
 intro n
 induction n with
 |zero=>intro cs;rfl
 |succ n ih=>
  intro cs
  simp only[Rs]
  rw[← h1 cs]
  cases one cs with
  |none=>rfl
  |some p=>obtain⟨x,f,r⟩:=p;simp only[ih]
theorem AKZ{H H':List Ob}(h:∀ id,H[id]? = H'[id]?∨AXQ H H' id):∀ (t:Ty) (cs:List AV),Ao H t cs=Ao H' t cs:=by
 intro t
 induction t with
 |unit=>intro cs;cases cs<;>rfl
 |bool=>intro cs;cases cs with
  |nil=>rfl
  |cons c cs=>unfold Ao;rw[E2 h .bool c]
 |int k=>intro cs;cases cs with
  |nil=>rfl
  |cons c cs=>unfold Ao;rw[E2 h (.int k) c]
 |slice e _=>intro cs;cases cs with
  |nil=>rfl
  |cons c cs=>unfold Ao;rw[E2 h (.slice e) c]
 |nul e=>intro cs;cases cs with
  |nil=>rfl
  |cons c cs=>unfold Ao;rw[E2 h (.nul e) c]
 |mapi j e _=>intro cs;cases cs with
  |nil=>rfl
  |cons c cs=>unfold Ao;rw[E2 h (.mapi j e) c]
 |prod a b iha ihb=>
  intro cs
  simp only[Ao]
  rw[← iha cs]
  cases Ao H a cs with
  |none=>rfl
  |some p=>obtain⟨x,f,r⟩:=p;simp only[ihb]
 |arr n e ih=>intro cs;simp only[Ao];exact AZ0 ih n cs
theorem Aa0{H H':List Ob}(h:∀ id,H[id]? = H'[id]?∨AXQ H H' id)(t:Ty)(v:AV):Eh H t v=Eh H' t v:=by
 unfold Eh
 split
 ·cases v<;>simp only[asAgg]
  rename_i cs
  rw[AKZ h t cs]
 ·exact E2 h t v
theorem AZj{α β:Type}[DecidableEq α](es:List (α×β))(k j:α)(z:β):(AP (Af es k ((AP es k).getD z)) j).getD z=(AP es j).getD z:=by
 have key:∀ (es:List (α×β)) (v:β),AP (Af es k v) j=if j=k then some v else AP es j:=by
  intro es v
  induction es with
  |nil=>
   simp only[Af,AP]
   by_cases h:j=k
   ·rw[AjP h,AjP h.symm]
   ·rw[AjQ h,AjQ (Ajy h)]
  |cons e es ih=>
   obtain⟨a,x⟩:=e
   by_cases h1:a=k
   ·subst h1
    simp only[Af,AP,Ajw]
    by_cases h:j=a
    ·rw[AjP h,AjP h.symm]
    ·rw[AjQ h,AjQ (Ajy h),AjQ (Ajy h)]
   ·simp only[Af,AP,h1,Ajc,ih]
    by_cases h:a=j
    ·subst h
     rw[AjP rfl,AjQ h1,AjP rfl]
    ·rw[AjQ h,AjQ h]
 rw[key]
 by_cases h:j=k
 ·rw[AjP h,h];rfl
 ·rw[AjQ h]
theorem AKM{R:Type}{H:List Ob}{j:Nat}{a b:Ty}{es es':List (a.den×b.den)}(hj:H[j]? = some (.map a b es))(hval:∀ key:a.den,(AP (α:=a.den) es' key).getD b.zero=(AP (α:=a.den) es key).getD b.zero)
  (T:TypeId) (m x:Operand) (ty:TypeId) (ρ:Operand→AV) (fz fz':List Bool) (slot slot':Nat) (kk:AV→Eff→Option R) :
  evalOp P E R (.lookup T m x false) ty ρ (H.set j (.map a b es')) fz' slot' kk=evalOp P E R (.lookup T m x false) ty ρ H fz slot kk:=by
 have hlt:=Al hj
 have hm:∀ id,(H.set j (.map a b es'))[id]? = H[id]?∨AXQ (H.set j (.map a b es')) H id:=fun id=>by
  by_cases hid:id=j
  ·subst hid
   exact .inr ⟨⟨a,b,es',Aw hlt⟩,a,b,es,hj⟩
  ·exact .inl (Ab hid)
 simp only[evalOp,Aa0 hm]
 cases P.underlying T with
 |none=>rfl
 |some d=>
  cases d with
  |map kt vt=>
   by_cases hmp:∃ id,ρ m = .mp id
   case neg=>
    cases hv:ρ m with
    |data t d=>cases t<;>rfl
    |mp id=>exact absurd ⟨id,hv⟩ hmp
    |_=>rfl
   obtain⟨id,hv⟩:=hmp
   rw[hv]
   dsimp only
   by_cases hid:id=j
   ·subst hid
    rw[Aw hlt,hj]
    dsimp only
    cases decide (Xo P kt=some a)with
    |false=>rfl
    |true=>cases zeroAt P vt with
     |none=>rfl
     |some z=>
      obtain⟨b',zc⟩:=z
      dsimp only
      cases decide (b'=b)with
      |false=>rfl
      |true=>cases Eh H a (ρ x)with
       |none=>rfl
       |some p=>
        obtain⟨key,f⟩:=p
        dsimp only
        rw[hval key]
   ·rw[Ab hid]
  |_=>rfl
theorem AKH{H:List Ob}{fz:List Bool}{T:TypeId}{m x:Operand}{ty:TypeId}{ρ:Operand→AV}{slot:Nat}{v:AV}{e:Eff}(h:∀ (R:Type) (k:AV→Eff→Option R),evalOp P E R (.mapEntry T m x) ty ρ H fz slot k=k v e):
  ∃ id a b es,∃ key:a.den,H[id]? = some (.map a b es)∧e = { objs:=[(id,.map a b (Af (α:=a.den) es key ((AP (α:=a.den) es key).getD b.zero)))] }:=by
 have:=h Eff (fun _ e=>some e)
 simp only[evalOp]at this
 split at this
 ·split at this
  ·rename_i id _ _ a b es ho
   split at this
   ·split at this
    ·simp only[AjH]at this
     exact⟨_,_,_,_,_,ho,this.symm⟩
    ·cases this
   ·cases this
  ·cases this
 ·cases this
theorem AXR{H H':List Ob}{ρ:Operand→AV}{o:Op}{φ:List Nat}(hw:YL φ=false)(hk:Kn E H ρ o φ):Kn E H' ρ o φ:=by
 rcases hk with⟨h1,_⟩|hk
 ·rw[hw]at h1;cases h1
 ·exact .inr hk
theorem ARQ{all:List Oper}{x y:Oper}{φx φy:List Nat}{sx sy:Nat}(hap:apart? all x y=true)(w1:YL φx=false)(w2:YL φy=false)(hm:ZB x.op y.op=true)
  {st s1 s2:St} (hx:Cc P E all x φx sx st s1) (hy:Cc P E all y φy sy s1 s2):∃ s1',Cc P E all y φy sy st s1'∧Cc P E all x φx sx s1' s2:=by
 have hap':=L4 hap
 obtain⟨_,hdd,_⟩:=Oper.apart_spec hap
 obtain⟨T,m,kx,ok,hxo,T',m',ky,hyo,hok⟩:∃ T m kx ok,x.op = .lookup T m kx ok∧∃ T' m' ky,y.op = .mapEntry T' m' ky∧ok=false:=by
  cases hxo:x.op<;>cases hyo:y.op<;>rw[hxo,hyo]at hm<;>simp only[ZB,Ajf]at hm
  exact⟨_,_,_,_,rfl,_,_,_,rfl,by simpa using hm⟩
 subst hok
 have gx:∀ (v:AV) (s:St),CF all y.guard (s.put x.dst v)=CF all y.guard s:=fun v s=>Gz hap s v s.heap s.frz
 have gy:∀ (v:AV) (H:List Ob) (F:List Bool) (s:St),CF all x.guard ({ s with heap:=H,frz:=F }.put y.dst v)=CF all x.guard s:=fun v H F s=>Gz hap' s v H F
 have hh:∀ v:AV,(st.put x.dst v).heap=st.heap∧(st.put x.dst v).frz=st.frz:=fun v=>by cases x.dst<;>exact⟨rfl,rfl⟩
 have xs:∃ vx,s1=st.put x.dst vx∧∀ s:St,(∀ z∈x.op.operands,BW s.tmps z=BW st.tmps z)→CF all x.guard s=CF all x.guard st →
   (s.heap=st.heap∨∃ j a b es es',st.heap[j]? = some (.map a b es)∧s.heap=st.heap.set j (.map a b es')∧∀ key:a.den,(AP (α:=a.den) es' key).getD b.zero=(AP (α:=a.den) es key).getD b.zero)→Cc P E all x φx sx s (s.put x.dst vx):=by
  rcases hx with⟨g1,vx,ex,hqx,a3,rfl⟩|⟨g1,rfl⟩
  ·have he:=ADO (by rw[hxo];rfl) _ _ _ _ _ a3
   subst he
   refine⟨vx,rfl,fun s hput hg hH=>.inl ⟨by rw[hg];exact g1,vx,{},?_,fun R k => ?_,rfl⟩⟩
   ·rcases hqx with h|⟨h1,h4⟩
    ·exact .inl h
    ·exact .inr ⟨AXR w1 (G3 (fun z hz=>(hput z hz).symm) h1),h4⟩
   ·rw[← a3 R k,Bu x.op x.type _ _ sx k hput]
    rcases hH with hH|⟨j,a,b,es,es',h1,h2,h3⟩
    ·rw[hH,hxo];rfl
    ·rw[h2,hxo]
     exact AKM h1 h3 _ _ _ _ _ _ _ _ _ _
  ·exact⟨BV,rfl,fun s _ hg _=>.inr ⟨by rw[hg];exact g1,rfl⟩⟩
 obtain⟨vx,rfl,hxs⟩:=xs
 have hput:∀ z∈y.op.operands,BW (st.put x.dst vx).tmps z=BW st.tmps z:=fun z hz=>B6 hap st vx z hz
 rcases hy with⟨g2,vy,ey,hqy,b3,rfl⟩|⟨g2,rfl⟩
 ·have b3':∀ (R:Type) (k:AV→Eff→Option R),evalOp P E R y.op y.type (BW st.tmps) st.heap st.frz sy k=k vy ey:=fun R k=>by
   have:=b3 R k
   rw[(hh vx).1,(hh vx).2,Bu y.op y.type _ _ sy k hput]at this
   exact this
  refine⟨(st.app ey).put y.dst vy,.inl ⟨by rw[← gx vx st];exact g2,vy,ey,?_,b3',rfl⟩,?_⟩
  ·rcases hqy with h|⟨h1,h4⟩
   ·exact .inl h
   ·exact .inr ⟨AXR w2 (G3 hput h1),h4⟩
  ·rw[hyo]at b3'
   obtain⟨j,a,b,es,key,ho,rfl⟩:=AKH b3'
   have:=hxs ((st.app { objs:=[(j,.map a b (Af (α:=a.den) es key ((AP (α:=a.den) es key).getD b.zero)))] }).put y.dst vy) (fun z hz=>B6 hap' (st.app _) vy z hz) (gy vy _ _ st)
    (.inr ⟨j,a,b,es,_,ho,by cases y.dst<;>rfl,fun k=>AZj (α:=a.den) es key k b.zero⟩)
   rw[St.L3,St.put_comm _ vx vy hdd]
   exact this
 ·refine⟨st.put y.dst BV,.inr ⟨by rw[← gx vx st];exact g2,rfl⟩,?_⟩
  have:=hxs (st.put y.dst BV) (fun z hz=>B6 hap' st BV z hz) (gy BV st.heap st.frz st) (.inl (by cases y.dst<;>rfl))
  rw[St.put_comm _ vx BV hdd]
  exact this
theorem AX0(hL:JT E){all:List Oper}{x y:Oper}{φx φy:List Nat}{sx sy:Nat}(hin:indep all x y φx φy sx sy=true)(hsl:sx+slotsOf x.op≤sy)
  {st s1 s2:St} (hx:Cc P E all x φx sx st s1) (hy:Cc P E all y φy sy s1 s2):∃ s1',Cc P E all y φy sy st s1'∧Cc P E all x φx sx s1' s2:=by
 obtain⟨hap,h⟩:=AO8 hin
 rcases h with⟨w1,w2,hm⟩|⟨h1,h2⟩|⟨h1,h2⟩|⟨n1,n2,i1,i2,i3,i4⟩
 ·exact ARQ hap w1 w2 hm hx hy
 ·exact ARS hap h1 h2 hx hy
 ·exact ARR hap h1 h2 hx hy
 ·exact ART hL hap n1 n2 i1 i2 i3 i4 hsl hx hy
end
end Go.Pev
end
section
namespace Go.Pev
open Go.RowKit
section
variable {P:Program} {E:Env}
theorem AOd{all:List Oper}{y:Oper}{φy:List Nat}{sy:Nat}:∀ {l:List (Nat×Oper×List Nat×Nat)},Y8 all y φy sy l=true→∀ q∈l,reach all 8 y q.1=true∨indep all q.2.1 y q.2.2.1 φy q.2.2.2 sy=true:=by
 intro l
 induction l with
 |nil=>intro _ q hq;cases hq
 |cons p l ih=>
  intro h q hq
  obtain⟨i,x,φx,sx⟩:=p
  simp only[Y8,AjK,AkW]at h
  rcases AjN.1 hq with rfl|hq
  ·rcases h.1 with h1|h1|h1
   ·exact .inl (by simp only[reach,h1,Bool.true_or])
   ·exact .inr h1
   ·exact .inl h1
  ·exact ih h.2 q hq
theorem AJ0{all:List Oper}{fp:List (List Nat)}{base:Nat}:∀ (rest pre:List Oper) (fp':List (List Nat)) (slot:Nat) (acc:List (Nat×Oper×List Nat×Nat)),all=pre++rest→fp'=fp.drop pre.length→slot=B8 all base pre.length →
  (∀ j x,j<pre.length→all[j]? = some x→(j,x,fp.getD j [],B8 all base j)∈acc)→AJ1 all rest fp' pre.length slot acc=true →
  ∀ i y,pre.length≤i→all[i]? = some y→(∀ e∈y.after.toList,Region.binds .any e=true→e.on<i) ∧
   ∀ j x,j<i→all[j]? = some x→reach all 8 y j=true∨indep all x y (fp.getD j []) (fp.getD i []) (B8 all base j) (B8 all base i)=true:=by
 intro rest
 induction rest with
 |nil=>
  intro pre fp' slot acc hall _ _ _ _ i y hi hy
  rw[hall,AkS,Ajo hi]at hy;cases hy
 |cons o rest ih=>
  intro pre fp' slot acc hall hfp hsl hacc h i y hi hy
  simp only[AJ1,AjK]at h
  obtain⟨⟨h1,h2⟩,h3⟩:=h
  have hlen:(pre++[o]).length=pre.length+1:=by simp
  have hfp1:fp'.headD []=fp.getD pre.length []:=by
   rw[hfp,AjI,List.headD_eq_head?_getD,List.head?_drop]
  have hfp2:fp'.tail=fp.drop (pre++[o]).length:=by rw[hfp,hlen,List.tail_drop]
  have hs2:slot+slotsOf o.op=B8 all base (pre++[o]).length:=by
   rw[hsl,hlen]
   unfold B8
   have e1:all.take (pre.length+1)=pre++[o]:=by rw[hall,AlM,AkQ (by omega)];simp
   have e2:all.take pre.length=pre:=by rw[hall];simp
   rw[e1,e2,LI]
   simp[FE];omega
  have ho:all[pre.length]? = some o:=by rw[hall];simp
  rcases Aj5 pre.length i with hlt|hge
  ·refine ih (pre++[o]) _ _ _ (by rw[hall];simp) hfp2 hs2 (fun j x hj hx => ?_) (by rw[hlen];exact h3) i y (by rw[hlen];exact hlt) hy
   rw[hlen]at hj
   by_cases hjp:j=pre.length
   ·subst hjp
    rw[ho]at hx;cases hx
    rw[hfp1,hsl];simp
   ·exact Ajh _ (hacc j x (by omega) hx)
  ·have hip:i=pre.length:=by omega
   subst hip
   rw[ho]at hy;cases hy
   refine⟨fun e he hb => ?_,fun j x hj hx => ?_⟩
   ·rw[Ajd]at h2
    have:=h2 e he
    rw[hb]at this
    simpa using this
   ·rw[hfp1,hsl]at h1
    exact AOd h1 _ (hacc j x hj hx)
theorem AX7{all:List Oper}{base i j:Nat}{x:Oper}(hij:j<i)(hx:all[j]? = some x):B8 all base j+slotsOf x.op≤B8 all base i:=by
 unfold B8
 have hjl:j<all.length:=by
  rcases Aj5 j all.length with h|h
  ·exact h
  ·rw[Ajo h]at hx;cases hx
 have e:all.take (j+1)=all.take j++[x]:=by
  rw[Akk hjl]
  rw[AjM hjl]at hx
  cases hx;rfl
 have e2:all.take i=all.take (j+1)++(all.drop (j+1)).take (i-(j+1)):=by
  rw[← List.take_add];congr 1;omega
 rw[e2,e,LI,LI]
 simp[FE];omega
theorem AQG(hL:JT E){all:List Oper}{fp:Nat→List Nat}{base:Nat}{i:Nat}{y:Oper}(hy:all[i]? = some y):
  ∀ (l1 l2:List Nat) (st st':St),(∀ j∈l1,j<i∧∀ x,all[j]? = some x→indep all x y (fp j) (fp i) (B8 all base j) (B8 all base i)=true) →
   AH0 P E all fp (B8 all base) (l1++i::l2) st st'→AH0 P E all fp (B8 all base) (i::(l1++l2)) st st':=by
 intro l1
 induction l1 with
 |nil=>intro l2 st st' _ h;exact h
 |cons j l1 ih=>
  intro l2 st st' hj h
  obtain⟨x,s1,hx,h1,h2⟩:=h
  obtain⟨y',s2,hy',h3,h4⟩:=ih l2 s1 st' (fun k hk=>hj k (by simp[hk])) h2
  rw[hy]at hy';cases hy'
  obtain⟨hlt,hin⟩:=hj j (by simp)
  obtain⟨s1',h5,h6⟩:=AX0 hL (hin x hx) (AX7 hlt hx) h1 h3
  exact⟨y,s1',hy,h5,x,s2,hx,h6,h4⟩
def BC(n:Nat)(listed:Array Bool):List Nat:=(List.range n).filter fun i => !listed.getD i true
theorem AIB{n:Nat}{listed:Array Bool}{i:Nat}(hs:listed.size=n)(l1 l2:List Nat)(h:BC n listed=l1++i::l2):BC n (listed.setIfInBounds i true)=l1++l2:=by
 have hnd:(BC n listed).Nodup:=Alz _ AmY
 have hmem:i∈BC n listed:=by rw[h];simp
 have hin:i<n:=by
  unfold BC at hmem
  simpa using (AkE.1 hmem).1
 have e:BC n (listed.setIfInBounds i true)=(BC n listed).filter fun j=>decide (j≠i):=by
  unfold BC
  rw[List.filter_filter]
  apply AmL
  intro j hj
  have hjn:j<n:=by simpa using hj
  by_cases hji:j=i
  ·subst hji
   simp[Aj4,hs,hjn]
  ·simp[Aj4,Array.getElem?_setIfInBounds_ne (Ajy hji),hji]
 rw[e,h]
 rw[h]at hnd
 rw[AlH]at hnd
 obtain⟨_,hn2,hd⟩:=hnd
 rw[AlB,AkN]
 simp only[ne_eq,Akp,Ajj,Ajf,Ajc]
 rw[Al5.2,Al5.2]
 ·intro j hj
  have:j≠i:=by rintro rfl;exact(Aju.1 hn2).1 hj
  simp[this]
 ·intro j hj
  have:j≠i:=hd j hj i (by simp)
  simp[this]
theorem YN{n:Nat}{listed:Array Bool}{i:Nat}{l1 l2:List Nat}(h:BC n listed=l1++i::l2):∀ j∈l1,j<i:=by
 have hp:(BC n listed).Pairwise (· < ·):=Alz _ List.pairwise_lt_range
 rw[h,Al0]at hp
 intro j hj
 exact hp.2.2 j hj i (by simp)
def AVt(ops:List Oper)(listed:Nat→Bool):Prop:=∀ k z,ops[k]? = some z→listed k=true→∀ e∈z.after.toList,Region.binds .any e=true→listed e.on=true
theorem AJS{ops:List Oper}{listed:Nat→Bool}(hc:AVt ops listed):∀ (n:Nat) (y:Oper) (j:Nat),(∀ e∈y.after.toList,Region.binds .any e=true→listed e.on=true)→reach ops n y j=true→listed j=true:=by
 intro n
 induction n with
 |zero=>intro y j _ h;cases h
 |succ n ih=>
  intro y j hy h
  simp only[reach,AkW]at h
  rcases h with h|h
  ·unfold AKj at h
   rw[AlX]at h
   obtain⟨e,he,hbe⟩:=h
   simp only[AjK,AjJ]at hbe
   have:=hy e he hbe.1
   rwa [hbe.2]at this
  ·rw[AlX]at h
   obtain⟨e,he,hbe⟩:=h
   simp only[AjK]at hbe
   obtain⟨h1,h2⟩:=hbe
   split at h2
   ·rename_i z hz
    exact ih z j (hc e.on z hz (hy e he h1)) h2
   ·cases h2
theorem Aak(hE:∀ g,AR P g (E.spec g))(hL:JT E){ops:Array Oper}{fp:Nat→List Nat}{base:Nat}{Q:Exit→Act→World→Prop}{st':St}
  (hok:∀ i y,ops.toList[i]? = some y→(∀ e∈y.after.toList,Region.binds .any e=true→e.on<i) ∧
   ∀ j x,j<i→ops.toList[j]? = some x→reach ops.toList 8 y j=true∨indep ops.toList x y (fp j) (fp i) (B8 ops.toList base j) (B8 ops.toList base i)=true) :
  ∀ (fuel:Nat) (listed:Array Bool) (st:St) (w:World) (F:Nat→Prop) (m:Mp) (a:Act),listed.size=ops.size→AVt ops.toList (fun i=>listed.getD i false)→(BC ops.size listed).length≤fuel→SI w F m st a →
   AH0 P E ops.toList fp (B8 ops.toList base) (BC ops.size listed) st st' →
   (∀ a' w' F' m',SI w' F' m' st' a'→Ext w F m st.heap st.frz w' F' m' st'.heap st'.frz→Q .normal a' w')→wpAny P .any ops Q fuel listed a w:=by
 intro fuel
 have hdone:∀ (listed:Array Bool) (st:St) (w:World) (F:Nat→Prop) (m:Mp) (a:Act),BC ops.size listed=[]→SI w F m st a→AH0 P E ops.toList fp (B8 ops.toList base) (BC ops.size listed) st st' →
   (∀ a' w' F' m',SI w' F' m' st' a'→Ext w F m st.heap st.frz w' F' m' st'.heap st'.frz→Q .normal a' w')→Q .normal a w:=by
  intro listed st w F m a h0 hs hc hq
  rw[h0]at hc
  have hc:st=st':=hc
  subst hc
  exact hq a w F m hs (Ext.refl ..)
 have hready:∀ (listed:Array Bool) (i:Nat),i∈Region.ready .any ops listed↔i∈BC ops.size listed∧((ops[i]?).map (·.after.all fun e => !Region.binds .any e||listed.getD e.on false)).getD false=true:=by
  intro listed i
  unfold Region.ready BC
  simp only[AkE,AjK,AkB]
  exact⟨fun ⟨h1,h2,h3⟩=>⟨⟨h1,h2⟩,h3⟩,fun ⟨⟨h1,h2⟩,h3⟩=>⟨h1,h2,h3⟩⟩
 induction fuel with
 |zero=>
  intro listed st w F m a hsz hcl hl hs hc hq
  have h0:BC ops.size listed=[]:=Ajg (by omega)
  refine⟨List.eq_nil_iff_forall_not_mem.2 fun i hi => ?_,hdone listed st w F m a h0 hs hc hq⟩
  have:=((hready listed i).1 hi).1
  rw[h0]at this;cases this
 |succ fuel ih=>
  intro listed st w F m a hsz hcl hl hs hc hq
  refine⟨fun hnil => ?_,fun i hi => ?_⟩
  ·refine hdone listed st w F m a ?_ hs hc hq
   cases hu:BC ops.size listed with
   |nil=>rfl
   |cons i l=>
    exfalso
    have hmem:i∈BC ops.size listed:=by rw[hu];simp
    have hin:i<ops.size:=by unfold BC at hmem;simpa using (AkE.1 hmem).1
    have:i∈Region.ready .any ops listed:=by
     refine(hready listed i).2 ⟨hmem,?_⟩
     rw[AkX hin]
     simp only[Ak2,Ajn]
     rw[← Array.all_toList,Ajd]
     intro e he
     cases hb:Region.binds .any e with
     |false=>rfl
     |true=>
      have hlt:=(hok i ops[i] (by simp[hin])).1 e he hb
      simp only[AjT,Bool.false_or]
      cases hg:listed.getD e.on false with
      |true=>rfl
      |false=>
       exfalso
       have hon:e.on<ops.size:=by omega
       have:e.on∈BC ops.size listed:=by
        unfold BC
        rw[AkE]
        refine⟨by simpa using hon,?_⟩
        have hlt':e.on<listed.size:=by omega
        rw[Aj4,AkX hlt']at hg ⊢
        simpa using hg
       rw[hu]at this
       have hp:(BC ops.size listed).Pairwise (· < ·):=Alz _ List.pairwise_lt_range
       rw[hu,Aj9]at hp
       rcases AjN.1 this with h|h
       ·omega
       ·have:=hp.1 _ h;omega
    rw[hnil]at this;cases this
  ·obtain⟨hmem,hrd⟩:=(hready listed i).1 hi
   have hin:i<ops.size:=by unfold BC at hmem;simpa using (AkE.1 hmem).1
   obtain⟨l1,l2,hsplit⟩:=AmD hmem
   have hgi:ops[i]? = some ops[i]:=AkX hin
   have hgl:ops.toList[i]? = some ops[i]:=by simp[hin]
   rw[hgi]at hrd
   simp only[Ak2,Ajn]at hrd
   rw[← Array.all_toList,Ajd]at hrd
   rw[hsplit]at hc
   obtain⟨y,s1,hy,h1,h2⟩:=AQG hL hgl l1 l2 st st' (fun j hj=>by
    have hji:=YN hsplit j hj
    refine⟨hji,fun x hx => ?_⟩
    rcases(hok i _ hgl).2 j x hji hx with h|h
    ·exfalso
     have hall:∀ e∈(ops[i]).after.toList,Region.binds .any e=true→(fun i=>listed.getD i false) e.on=true:=by
      intro e he hb
      have:=hrd e he
      rw[hb]at this
      simpa using this
     have this:=AJS hcl 8 _ j hall h
     have hju:j∈BC ops.size listed:=by rw[hsplit];simp[hj]
     unfold BC at hju
     have h3:=(AkE.1 hju).2
     have hjl:j<listed.size:=by omega
     rw[Aj4,AkX hjl]at this h3
     simp only[Ajn]at this h3
     rw[this]at h3;cases h3
    ·exact h) hc
   rw[hgl]at hy;cases hy
   have hnext:=AIB hsz l1 l2 hsplit
   have hlen:(BC ops.size (listed.setIfInBounds i true)).length≤fuel:=by
    rw[hnext]
    rw[hsplit]at hl
    simp only[AjS,AjR]at hl ⊢
    omega
   have hcl2:AVt ops.toList (fun k=>(listed.setIfInBounds i true).getD k false):=by
    have hset:∀ k,(listed.setIfInBounds i true).getD k false=true↔(k=i∨listed.getD k false=true):=by
     intro k
     have hil:i<listed.size:=by omega
     rw[Aj4,Aj4,Array.getElem?_setIfInBounds]
     by_cases hki:i=k
     ·subst hki;simp[hil]
     ·simp[hki,Ajy hki]
    intro k z hz hk e he hb
    simp only[hset]at hk ⊢
    right
    rcases hk with rfl|hk
    ·rw[hgl]at hz;cases hz
     have:=hrd e he
     rw[hb]at this
     simpa using this
    ·exact hcl k z hz hk e he hb
   unfold wpOp
   rw[hgi]
   simp only
   rcases h1 with⟨hg,v,e,_,b3,rfl⟩|⟨hg,rfl⟩
   ·have hw:Region.wanted ops[i] (yielded ops a.tmps)=true:=by
     unfold CF at hg
     unfold Region.wanted
     cases hgd:ops[i].guard with
     |none=>rfl
     |some p=>
      obtain⟨j,want⟩:=p
      rw[hgd]at hg
      dsimp only at hg ⊢
      cases hj:(ops.toList[j]?).bind (·.dst)with
      |none=>rw[hj]at hg;cases hg
      |some d=>
       rw[hj]at hg
       dsimp only at hg
       split at hg
       ·rename_i b hd
        rw[PX hs hj hd]
        simpa using hg
       ·simp at hg
       ·cases hg
    rw[AjP hw]
    left
    obtain⟨v',e',c1,_,c3⟩:=Ke hE ops[i].op (AV×Eff) ops[i].type (BW st.tmps) st.heap st.frz (B8 ops.toList base i) (fun v e=>some (v,e)) (v,e) (b3 _ _)
    simp only[AjH,Ajl]at c1
    obtain⟨rfl,rfl⟩:=c1
    refine c3 w F m a ops[i] _ Q rfl rfl hs.heap (fun x=>ACy hs.tmps x) fun u w' F' m' hgo hr => ?_
    have hs2:=(hs.go hgo).put hr ops[i].dst
    refine ih _ _ w' F' m' _ (by simp[hsz]) hcl2 hlen hs2 (by rw[hnext];exact h2) fun a' w2 F2 m2 q1 q2=>hq a' w2 F2 m2 q1 ?_
    have hh:((st.app e').put ops[i].dst v').heap=CS e' st.heap∧((st.app e').put ops[i].dst v').frz=GN e' st.frz:=by cases ops[i].dst<;>exact⟨rfl,rfl⟩
    rw[hh.1,hh.2]at q2
    exact hgo.1.trans q2
   ·have hw:Region.wanted ops[i] (yielded ops a.tmps)=false:=by
     unfold CF at hg
     unfold Region.wanted
     cases hgd:ops[i].guard with
     |none=>rw[hgd]at hg;cases hg
     |some p=>
      obtain⟨j,want⟩:=p
      rw[hgd]at hg
      dsimp only at hg ⊢
      cases hj:(ops.toList[j]?).bind (·.dst)with
      |none=>rw[hj]at hg;cases hg
      |some d=>
       rw[hj]at hg
       dsimp only at hg
       split at hg
       ·rename_i b hd
        rw[PX hs hj hd]
        simpa using hg
       ·rename_i hd
        rw[Qq hs hj hd]
        rfl
       ·cases hg
    rw[AjQ (by simp[hw])]
    have hs2:SI w F m (st.put ops[i].dst BV) (a.put ops[i].dst undef):=hs.put AMg ops[i].dst
    refine ih _ _ w F m _ (by simp[hsz]) hcl2 hlen hs2 (by rw[hnext];exact h2) fun a' w2 F2 m2 q1 q2=>hq a' w2 F2 m2 q1 ?_
    have hh:(st.put ops[i].dst BV).heap=st.heap∧(st.put ops[i].dst BV).frz=st.frz:=by cases ops[i].dst<;>exact⟨rfl,rfl⟩
    rw[hh.1,hh.2]at q2
    exact q2
theorem SI.drew{w:World}{F:Nat→Prop}{m:Mp}{st:St}{a:Act}(h:SI w F m st a):SI w.drew F m st a∧Ext w F m st.heap st.frz w.drew F m st.heap st.frz:=by
 have hg:=Ap.drew h.heap
 exact⟨⟨fun t=>hg.1.rep h.heap (h.tmps t),h.size,hg.2,h.defers⟩,hg.1⟩
theorem AFF(hE:∀ g,AR P g (E.spec g))(hL:JT E){R:Type}{r:R}{id:Nat}{fp:List (List Nat)}{ops:Array Oper}{Q:Exit→Act→World→Prop}{k:St→Option R}{st:St}{w:World}{F:Nat→Prop}{m:Mp}{a:Act}
  (h:ET P E R fp ops.toList st k=some r) (hs:SI w F m st a) (hq:∀ a' w',Aid r k w F m st.heap st.frz a' w'→Q .normal a' w'):(Code.region id ops true).wp P Q a w:=by
 unfold ET at h
 split at h
 ·rename_i hok
  simp only[AjK]at hok
  obtain⟨hm,hok⟩:=hok
  obtain⟨hs1,he1⟩:=hs.drew
  obtain⟨hs2,he2⟩:=hs1.pad (FE ops.toList)
  have hnn:ops.toList=[]++ops.toList:=by simp
  obtain⟨st',hc,hk⟩:=AFG hE (all:=ops.toList) (fp:=fp) (base:=st.heap.length) ops.toList [] fp st.heap.length _ hnn rfl (by simp[B8,FE]) h
  refine wp_region_any hm ?_
  have hu:BC ops.size (Array.replicate ops.size false)=List.range' 0 ops.toList.length:=by
   unfold BC
   rw[AjZ,← List.range_eq_range']
   rw[Al5]
   intro i hi
   have:i<ops.size:=by simpa using hi
   simp[Aj4,this]
  refine Aak (ops:=ops) hE hL (fp:=fun i=>fp.getD i []) (base:=st.heap.length) (st':=st') (fun i y hy=>AJ0 (all:=ops.toList) ops.toList [] fp _ [] hnn rfl (by simp[B8,FE]) (fun j x hj=>by simp at hj) hok i y (AmN _) hy)
   ops.size _ _ w.drew F m a (by simp) (fun k z _ hk=>by
    exfalso
    have hk:(Array.replicate ops.size false).getD k false=true:=hk
    rw[Aj4,Array.getElem?_replicate]at hk
    split at hk<;>cases hk) (by rw[hu];simp) hs2 (by rw[hu];exact hc) fun a' w' F' m' q1 q2=>hq a' w' ⟨st',F',m',hk,q1,he1.trans (he2.trans q2)⟩
 ·cases h
end
end Go.Pev
end
section
namespace Go.Pev
open Go.RowKit
def BO(w:World)(F:Nat→Prop)(m:Mp)(H:List Ob)(fz:List Bool)(m':Mp)(H':List Ob)(j:Nat):Bnd→Prop
 |.none=>m' j=none∧((∃ T e,H'[j]? = some (.arr T e [])∧0<e.size)∨∃ T t,H'[j]? = some (.prs T t []))
 |.whole id=>m' j=m id∧((∃ T t xs,H[id]? = some (.arr T t xs)∧H'[j]? = some (.arr T t xs)∧fz.getD id false=false) ∨
   (∃ k v es,H[id]? = some (.map k v es)∧H'[j]? = some (.map k v es)) ∨
   (∃ cs cs' b c vs T,H[id]? = some (.box cs)∧H'[j]? = some (.box cs')∧cs'.length=cs.length∧m id=some (b,c)∧w.heap[b]? = some (.cells vs T (0,0))∧Ad w F m' H' cs' vs.toList∧∀ u∈vs.toList,u.oneCell'=true) ∨
   (∃ T tgt j0 is,H[id]? = some (.prs T tgt is)∧H'[j]? = some (.prs T j0 is)∧ObI w F m' H' (.prs T j0 is) (m id)) ∨
   (∃ T e t xs ver,H[id]? = some (.rows T e t xs ver none)∧H'[j]? = some (.rows T e t xs 0 none)∧(∀ k,m' (.r j k)=m (.r id k))∧fz.getD id false=false))
 |.cut id=>∃ T t xs n,H[id]? = some (.arr T t xs)∧fz.getD id false=false∧H'[j]? = some (.arr T t (List.take (α:=t.den) n xs))∧(m' j=m id∨(m' j=none∧List.take (α:=t.den) n xs=[]))
structure Inv(w:World)(F:Nat→Prop)(m:Mp)(H:List Ob)(fz:List Bool)(bs:List Bnd)(m':Mp)(E:St)(val:Nat→Value):Prop where
 tmps:∀ t,Rep w F m' E.heap (E.tmps.getD t .junk) (val t)
 lenH:E.heap.length=bs.length
 lenF:E.frz.length=E.heap.length
 frz:∀ i,E.frz.getD i false=false
 ob:∀ j b,bs[j]? = some b→BO w F m H fz m' E.heap j b
 inj:∀ (i j:Nat) (b c:Bnd) (id:Nat),bs[i]? = some b→bs[j]? = some c→b.id? = some id→c.id? = some id→i=j
def AVf(w:World)(m:Mp)(H:List Ob)(bs:List Bnd)(val:Nat→Value):Loc→Value→Prop
 |.tmp t,u=>u=val t
 |.cell j c,u=>∃ id b cc vs T cs,bs[j]? = some (.whole id)∧H[id]? = some (.box cs)∧m id=some (b,cc)∧w.heap[b]? = some (.cells vs T (0,0))∧vs.toList[c]? = some u
 |_,_=>True
theorem AfB{w:World}{F:Nat→Prop}{m:Mp}{H:List Ob}{cs:List AV}{us:List Value}{c:Nat}{v:AV}{u:Value}(h:Ad w F m H cs us)(hu:us[c]? = some u)(hv:Rep w F m H v u):Ad w F m H (cs.set c v) us:=by
 refine DS (by simp[As h]) fun i x y hx hy => ?_
 by_cases hic:i=c
 ·subst hic
  rw[hu]at hy;cases hy
  have hl:i<cs.length:=by
   rw[← As h]
   rcases Aj5 i us.length with h'|h'
   ·exact h'
   ·rw[Ajo h']at hu;cases hu
  rw[Akh hl]at hx
  cases hx;exact hv
 ·rw[Ajx (Ajy hic)]at hx
  obtain⟨y',hy',hr⟩:=CR h hx
  rw[hy]at hy';cases hy';exact hr
theorem Abc{w:World}{F:Nat→Prop}{m:Mp}{H:List Ob}{tm:List AV}{val:Nat→Value}(h:∀ t,Rep w F m H (tm.getD t .junk) (val t)){t:Nat}{v:AV}(hv:Rep w F m H v (val t)):∀ i,Rep w F m H ((tm.set t v).getD i .junk) (val i):=by
 intro i
 by_cases hit:i=t
 ·subst hit
  by_cases hl:i<tm.length
  ·simp[hl,hv]
  ·rw[List.set_eq_of_length_le (by omega)];exact h i
 ·have:=h i
  rw[AjI]at this ⊢
  rw[Ajx (Ajy hit)]
  exact this
theorem ANI{w:World}{F F2:Nat→Prop}{m m2:Mp}{H H2:List Ob}{T:TypeId}{j:Nat}{is:List Int}{l:Option (Nat×Nat)}(h3:∀ {cs us},Ad w F m H cs us→Ad w F2 m2 H2 cs us)(h:ObI w F m H (.prs T j is) l):ObI w F2 m2 H2 (.prs T j is) l:=by
 cases l with
 |none=>exact h
 |some p=>
  obtain⟨b,cap⟩:=p
  obtain⟨vs,us,e1,e2,e3,e4,e5,e6⟩:=h
  exact⟨vs,us,e1,e2,e3,e4,h3 e5,e6⟩
section
variable {w:World} {F:Nat→Prop} {m:Mp} {H:List Ob} {fz:List Bool} {bs:List Bnd} {m':Mp} {E:St} {val:Nat→Value}
theorem BO.mono{b:Bnd}{m'':Mp}{H' H'':List Ob}{j:Nat}(h:BO w F m H fz m' H' j b)(h1:H''[j]? = H'[j]?)(h2:∀ x:Ix,x.id=j→m'' x=m' x)(h3:∀ {cs us},Ad w F m' H' cs us→Ad w F m'' H'' cs us):BO w F m H fz m'' H'' j b:=by
 cases b with
 |none=>simp only[BO]at *;rw[h1,h2 j rfl];exact h
 |whole id=>
  simp only[BO]at *
  rw[h1,h2 j rfl]
  obtain⟨e,h⟩:=h
  refine⟨e,?_⟩
  rcases h with h|h|⟨cs,cs',b,c,vs,T,a1,a2,a3,a4,a5,a6,a7⟩|⟨T,tgt,j0,is,a1,a2,a3⟩|⟨T,e',t,xs,ver,a1,a2,a3⟩
  ·exact .inl h
  ·exact .inr (.inl h)
  ·exact .inr (.inr (.inl ⟨cs,cs',b,c,vs,T,a1,a2,a3,a4,a5,h3 a6,a7⟩))
  ·exact .inr (.inr (.inr (.inl ⟨T,tgt,j0,is,a1,a2,ANI h3 a3⟩)))
  ·exact .inr (.inr (.inr (.inr ⟨T,e',t,xs,ver,a1,a2,fun k=>(h2 (.r j k) rfl).trans (a3.1 k),a3.2⟩)))
 |cut id=>simp only[BO]at *;rw[h1,h2 j rfl];exact h
theorem Inv.place(h:Inv w F m H fz bs m' E val){l:Loc}{u:Value}{v:AV}(hl:AVf w m H bs val l u)(hv:Rep w F m' E.heap v u):Inv w F m H fz bs m' (Pev.place E v l) val:=by
 cases l with
 |tmp t=>
  have hl:u=val t:=hl
  subst hl
  exact⟨Abc h.tmps hv,h.lenH,h.lenF,h.frz,h.ob,h.inj⟩
 |cap t i=>exact h
 |obj j=>exact h
 |cell j c=>
  obtain⟨id,b,cc,vs,T,cs,hj,hb,hm,hw,hu⟩:=hl
  have hbd:=h.ob j _ hj
  simp only[BO]at hbd
  obtain⟨hm',hbd⟩:=hbd
  rw[hb]at hbd
  rcases hbd with⟨_,_,_,hx,_⟩|⟨_,_,_,hx,_⟩|⟨cs0,cs',b0,c0,vs0,T0,hx,h1,h2,h3,h4,h5,h6⟩|⟨_,_,_,_,hx,_⟩|⟨_,_,_,_,_,hx,_⟩
  ·cases hx
  ·cases hx
  rotate_left
  ·cases hx
  ·cases hx
  ·cases hx
   rw[hm]at h3;cases h3
   rw[hw]at h4;cases h4
   have hlt:=Al h1
   have hcomp:CK E.heap (E.heap.set j (.box (cs'.set c v))) m' m':=by
    intro i o hi hf
    by_cases hij:i=j
    ·subst hij
     rw[h1]at hi;cases hi
     exact .inr ⟨by simp,_,Aw hlt,trivial,rfl,fun _ _ _=>rfl⟩
    ·rcases CK.refl E.heap m' i o hi hf with h|⟨hd,o',h4,h5,_⟩
     ·exact .inl (by rw[Ab hij];exact h)
     ·exact .inr ⟨hd,o',by rw[Ab hij];exact h4,h5,rfl,fun _ _ _=>rfl⟩
   have mono:∀ {a u},Rep w F m' E.heap a u→Rep w F m' (E.heap.set j (.box (cs'.set c v))) a u:=fun h=>Rep.mono (fun _ _=>rfl) (fun _ h=>h) hcomp _ h
   have monoL:∀ {a u},Ad w F m' E.heap a u→Ad w F m' (E.heap.set j (.box (cs'.set c v))) a u:=fun h=>Ad.mono (fun _ _=>rfl) (fun _ h=>h) hcomp _ h
   unfold Pev.place
   simp only[h1]
   refine⟨fun t=>mono (h.tmps t),by simp[h.lenH],by simp[h.lenF],h.frz,fun i x hi => ?_,h.inj⟩
   by_cases hij:i=j
   ·subst hij
    rw[hj]at hi;cases hi
    simp only[BO]
    exact⟨hm',.inr (.inr (.inl ⟨cs,_,b,cc,vs,T,hb,Aw hlt,by simp[h2],hm,hw,monoL (AfB h5 hu hv),h6⟩))⟩
   ·exact(h.ob i x hi).mono (Ab hij) (fun _ _=>rfl) monoL
theorem ZE{α:Type}{l:List α}{x y:α}{j:Nat}(h:(l++[x])[j]? = some y):(j<l.length∧l[j]? = some y)∨(j=l.length∧y=x):=by
 rcases AmM j l.length with hj|hj|hj
 ·rw[Ajp hj]at h;exact .inl ⟨hj,h⟩
 ·subst hj;simp at h;exact .inr ⟨rfl,h.symm⟩
 ·rw[Ajo (by simp;omega)]at h;cases h
theorem Inv.AiZ(h:Inv w F m H fz bs m' E val){b:Bnd}{o:Ob}{mn:Mp}(hmn:∀ x:Ix,x.id≠E.heap.length→mn x=m' x)(hid:∀ (i:Nat) (c:Bnd) (id:Nat),bs[i]? = some c→c.id? = some id→b.id?≠some id)
  (hbd:BO w F m H fz mn (E.heap++[o]) E.heap.length b):Inv w F m H fz (bs++[b]) mn (Dm E o) val:=by
 have hcomp:CK E.heap (E.heap++[o]) m' mn:=by
  intro i x hi hf
  have hlt:=Al hi
  rcases CK.refl E.heap m' i x hi hf with h|⟨hd,o',h4,h5,_⟩
  ·exact .inl (by rw[Ajp hlt];exact h)
  ·exact .inr ⟨hd,o',by rw[Ajp hlt];exact h4,h5,hmn _ (by show i≠_;omega),fun _ _ _=>hmn _ (by show i≠_;omega)⟩
 have monoL:∀ {a u},Ad w F m' E.heap a u→Ad w F mn (E.heap++[o]) a u:=fun h=>Ad.mono (fun _ _=>rfl) (fun _ h=>h) hcomp _ h
 refine⟨fun t=>Rep.mono (fun _ _=>rfl) (fun _ h=>h) hcomp _ (h.tmps t),by simp[Dm,h.lenH],by simp[Dm,h.lenF],fun i => ?_,fun j x hj => ?_,fun i j x y id hi hj hx hy => ?_⟩
 ·have:=h.frz i
  simp only[Dm]
  rw[AjI]at this ⊢
  rcases Aj5 i E.frz.length with hl|hl
  ·rw[Ajp hl];exact this
  ·rw[Ajv hl]
   cases hk:i-E.frz.length with
   |zero=>simp
   |succ k=>simp
 ·rcases ZE hj with⟨hlt,hj1⟩|⟨hj1,rfl⟩
  ·rw[← h.lenH]at hlt
   exact(h.ob j x hj1).mono (Ajp hlt) (fun y hy=>hmn y (by omega)) monoL
  ·rw[← h.lenH]at hj1
   rw[hj1]
   exact hbd
 ·rcases ZE hi with⟨hlt,hi1⟩|⟨hi1,rfl⟩
  ·rcases ZE hj with⟨hlt',hj1⟩|⟨hj1,rfl⟩
   ·exact h.inj i j x y id hi1 hj1 hx hy
   ·exact absurd hy (hid i x id hi1 hx)
  ·rcases ZE hj with⟨hlt',hj1⟩|⟨hj1,rfl⟩
   ·exact absurd hx (hid j y id hj1 hy)
   ·omega
theorem Inv.add(h:Inv w F m H fz bs m' E val){b:Bnd}{o:Ob}{l:Option (Nat×Nat)}(hid:∀ (i:Nat) (c:Bnd) (id:Nat),bs[i]? = some c→c.id? = some id→b.id?≠some id)
  (hbd:BO w F m H fz (upd m' E.heap.length l) (E.heap++[o]) E.heap.length b):Inv w F m H fz (bs++[b]) (upd m' E.heap.length l) (Dm E o) val:=
 h.AiZ (fun x hx=>ZS hx x rfl) hid hbd
theorem FK{id:Nat}(h:fresh? bs id=true):∀ (i:Nat) (c:Bnd),bs[i]? = some c→c.id?≠some id:=by
 intro i c hi he
 unfold fresh? at h
 rw[Ajd]at h
 have:=h c (AjW hi)
 cases c with
 |none=>simp[Bnd.id?]at he
 |whole k=>simp only[Bnd.id?,AjH]at he;subst he;simp at this
 |cut k=>simp only[Bnd.id?,AjH]at he;subst he;simp at this
theorem Inv.freeze(h:Inv w F m H fz bs m' E val){f:List Nat}(hf:f.all (fresh? bs)=true):Inv w (DB F m H f) m H (Ak f fz) bs m' E val:=by
 have monoL:∀ {a u},Ad w F m' E.heap a u→Ad w (DB F m H f) m' E.heap a u:=fun h=>Ad.mono (fun _ _=>rfl) (fun _ h=>.inl h) (CK.refl _ _) _ h
 have hfz:∀ (id i:Nat) (c:Bnd),bs[i]? = some c→c.id? = some id→fz.getD id false=false→(Ak f fz).getD id false=false:=by
  intro id i c hi hc h0
  rw[Ax,h0]
  have:id∉f:=fun hid=>by
   rw[Ajd]at hf
   exact FK (hf id hid) i c hi hc
  simp[this]
 refine⟨fun t=>Rep.mono (fun _ _=>rfl) (fun _ h=>.inl h) (CK.refl _ _) _ (h.tmps t),h.lenH,h.lenF,h.frz,fun j b hj => ?_,h.inj⟩
 have:=h.ob j b hj
 cases b with
 |none=>exact this
 |whole id=>
  simp only[BO]at *
  obtain⟨e,this⟩:=this
  refine⟨e,?_⟩
  rcases this with⟨T,t,xs,a1,a2,a3⟩|h1|⟨cs,cs',b,c,vs,T,a1,a2,a3,a4,a5,a6,a7⟩|⟨T,tgt,j0,is,a1,a2,a3⟩|⟨T,e',t,xs,ver,a1,a2,a3,a4⟩
  ·exact .inl ⟨T,t,xs,a1,a2,hfz id j _ hj rfl a3⟩
  ·exact .inr (.inl h1)
  ·exact .inr (.inr (.inl ⟨cs,cs',b,c,vs,T,a1,a2,a3,a4,a5,monoL a6,a7⟩))
  ·exact .inr (.inr (.inr (.inl ⟨T,tgt,j0,is,a1,a2,ANI monoL a3⟩)))
  ·exact .inr (.inr (.inr (.inr ⟨T,e',t,xs,ver,a1,a2,a3,hfz id j _ hj rfl a4⟩)))
 |cut id=>
  simp only[BO]at *
  obtain⟨T,t,xs,n,a1,a2,a3⟩:=this
  exact⟨T,t,xs,n,a1,hfz id j _ hj rfl a2,a3⟩
theorem ASc{j id off:Nat}{u:Value}(hb:BO w F m H fz m' E.heap j (.whole id))(hu:Rep w F m H (.ptr id off) u):Rep w F m' E.heap (.ptr j off) u:=by
 simp only[BO]at hb
 obtain⟨e,hb⟩:=hb
 unfold Rep at *
 unfold HC at *
 rcases hb with⟨T,t,xs,a1,_⟩|⟨k,v,es,a1,_⟩|⟨cs,cs',b,c,vs,T,a1,a2,_,a4,_⟩|⟨_,_,_,_,a1,_⟩|⟨_,_,_,_,_,a1,_⟩
 ·rw[a1]at hu;exact hu.elim
 ·rw[a1]at hu;exact hu.elim
 ·rw[a1]at hu
  rw[a2,e]
  exact hu
 ·rw[a1]at hu;exact hu.elim
 ·rw[a1]at hu;exact hu.elim
theorem Ag7{j id i sub:Nat}{u:Value}(hb:BO w F m H fz m' E.heap j (.whole id))(hu:Rep w F m H (.eptr id i sub) u):Rep w F m' E.heap (.eptr j i sub) u:=by
 simp only[BO]at hb
 obtain⟨e,hb⟩:=hb
 unfold Rep at *
 unfold Cm at *
 rcases hb with⟨T,t,xs,a1,a2,_⟩|⟨k,v,es,a1,_⟩|⟨cs,cs',b,c,vs,T,a1,a2,_,a4,_⟩|⟨_,_,_,_,a1,a2,_⟩|⟨K,_,_,_,_,a1,a2,_⟩
 ·rw[a1]at hu
  rw[a2,e]
  exact hu
 ·rw[a1]at hu;exact hu.elim
 ·rw[a1]at hu;exact hu.elim
 ·rw[a1]at hu
  rw[a2,e]
  exact hu
 ·rw[a1]at hu
  rw[a2,e]
  cases K<;>exact hu
theorem Af9{j id:Nat}{is:List Int}{us:List Value}(hb:BO w F m H fz m' E.heap j (.whole id))(hu:Ad w F m H (Fq id is) us):Ad w F m' E.heap (Fq j is) us:=by
 refine DS (by have:=As hu;simpa [Fq]using this) fun i c v hc hv => ?_
 rw[Fq,Ajq,AjX]at hc
 obtain⟨x,hx,rfl⟩:=hc
 obtain⟨v',hv',hr⟩:=CR hu (i:=i) (c:=.eptr id x.toNat 0) (by rw[Fq,Ajq,hx];rfl)
 rw[hv]at hv';cases hv'
 exact Ag7 hb hr
theorem Ait{j id:Nat}{u:Value}(hb:BO w F m H fz m' E.heap j (.whole id))(hu:Rep w F m H (.mp id) u):Rep w F m' E.heap (.mp j) u:=by
 simp only[BO]at hb
 obtain⟨e,hb⟩:=hb
 unfold Rep at *
 unfold MZ at *
 rcases hb with⟨T,t,xs,a1,_⟩|⟨k,v,es,a1,a2⟩|⟨cs,cs',b,c,vs,T,a1,a2,_,a4,_⟩|⟨_,_,_,_,a1,_⟩|⟨K,_,_,_,_,a1,a2,_⟩
 ·rw[a1]at hu;exact hu.elim
 ·rw[a1]at hu
  rw[a2,e]
  exact hu
 ·rw[a1]at hu;exact hu.elim
 ·rw[a1]at hu;exact hu.elim
 ·rw[a1]at hu
  rw[a2,e]
  cases K<;>exact hu
theorem AdG{j id:Nat}{u:Value}(hb:BO w F m H fz m' E.heap j (.whole id))(hu:Rep w F m H (.own id) u):Rep w F m' E.heap (.own j) u:=by
 simp only[BO]at hb
 obtain⟨e,hb⟩:=hb
 unfold Rep at *
 unfold A8 at *
 rcases hb with⟨T,t,xs,a1,a2,_⟩|⟨k,v,es,a1,a2⟩|⟨cs,cs',b,c,vs,T,a1,a2,_,a4,_⟩|⟨_,_,_,_,a1,a2,_⟩|⟨K,_,_,_,_,a1,a2,_⟩
 ·rw[a1]at hu
  rw[a2,e]
  exact hu
 ·rw[a1]at hu;exact hu.elim
 ·rw[a1]at hu;exact hu.elim
 ·rw[a1]at hu
  rw[a2,e]
  exact hu
 ·rw[a1]at hu
  rw[a2,e]
  cases K<;>exact hu
theorem AhM{j id n:Nat}{u:Value}(hb:BO w F m H fz m' E.heap j (.whole id))(hu:Rep w F m H (.aptr id n) u):Rep w F m' E.heap (.aptr j n) u:=by
 simp only[BO]at hb
 obtain⟨e,hb⟩:=hb
 unfold Rep at *
 unfold Fb at *
 rcases hb with⟨T,t,xs,a1,a2,_⟩|⟨k,v,es,a1,a2⟩|⟨cs,cs',b,c,vs,T,a1,a2,_,a4,_⟩|⟨_,_,_,_,a1,a2,_⟩|⟨K,_,_,_,_,a1,a2,_⟩
 ·rw[a1]at hu
  rw[a2,e]
  exact hu
 ·rw[a1]at hu;exact hu.elim
 ·rw[a1]at hu;exact hu.elim
 ·rw[a1]at hu;exact hu.elim
 ·rw[a1]at hu;exact hu.elim
theorem AQk{j id off n:Nat}{u:Value}(hb:BO w F m H fz m' E.heap j (.whole id))(hu:Rep w F m H (.win id off n) u):Rep w F m' E.heap (.win j off n) u:=by
 simp only[BO]at hb
 obtain⟨e,hb⟩:=hb
 unfold Rep at *
 unfold HB at *
 rcases hb with⟨T,t,xs,a1,a2,_⟩|⟨k,v,es,a1,a2⟩|⟨cs,cs',b,c,vs,T,a1,a2,_,a4,_⟩|⟨_,_,_,_,a1,_⟩|⟨_,_,_,_,_,a1,_⟩
 ·rw[a1]at hu
  rw[a2,e]
  exact hu
 ·rw[a1]at hu;exact hu.elim
 ·rw[a1]at hu;exact hu.elim
 ·rw[a1]at hu;exact hu.elim
 ·rw[a1]at hu;exact hu.elim
theorem AgL{id:Nat}{u:Value}{T:TypeId}{t:Ty}{ys:List t.den}(hi:HI w F m H fz)(ho:H[id]? = some (.arr T t ys))(hu:Rep w F m H (.own id) u):Rep w F m H (.win id 0 ys.length) u:=by
 unfold Rep at *
 unfold A8 at hu
 unfold HB
 rw[ho]at hu ⊢
 simp only at hu ⊢
 refine⟨by omega,?_⟩
 cases hm:m id with
 |none=>
  rw[hm]at hu
  obtain⟨a,rfl⟩:=hu
  obtain⟨_,hob⟩:=hi.obj id _ ho
  rw[hm]at hob
  simp only at hob
  subst hob
  exact⟨a,rfl⟩
 |some p=>
  obtain⟨b,cap⟩:=p
  rw[hm]at hu
  simp only at hu
  subst hu
  exact⟨some ⟨b,0,none⟩,rfl,fun _=>by simp⟩
theorem Fx{α:Type}{l:List α}{i:Nat}{o:α}(h:l[i]? = some o):i<l.length:=by
 rcases Aj5 i l.length with h'|h'
 ·exact h'
 ·rw[Ajo h']at h;cases h
theorem Bi(hi:HI w F m H fz){tm:List AV}(ht:∀ t v,tm[t]? = some v→Rep w F m H v (val t)){l:Loc}{v:AV}(h:look tm H bs l=some v):∃ u,Rep w F m H v u∧AVf w m H bs val l u:=by
 cases l with
 |tmp t=>exact⟨val t,ht t v h,rfl⟩
 |cell j c=>
  simp only[look]at h
  split at h
  ·rename_i id hj
   split at h
   ·rename_i cs ho
    obtain⟨b,cc,vs,T,h1,h2,h3,h4⟩:=hi.obj id _ ho
    obtain⟨u,hu,hr⟩:=CR h3 h
    exact⟨u,hr,id,b,cc,vs,T,cs,hj,ho,h1,h2,hu⟩
   ·cases h
  ·cases h
 |cap t i=>
  simp only[look]at h
  split at h
  ·rename_i f cs hc
   have:=ht t _ hc
   unfold Rep at this
   obtain⟨us,_,hr⟩:=this
   obtain⟨u,_,hu⟩:=CR hr h
   exact⟨u,hu,trivial⟩
  ·rename_i f cs hc
   have:=ht t _ hc
   unfold Rep at this
   obtain⟨us,_,hr⟩:=this
   obtain⟨u,_,hu⟩:=CR hr h
   exact⟨u,hu,trivial⟩
  ·cases h
 |obj j=>
  simp only[look,AhU]at h
  split at h
  ·rename_i T t xs ho
   cases h
   have:=hi.obj j _ ho
   obtain⟨_,this⟩:=this
   cases hm:m j with
   |none=>
    refine⟨.slice none 0 0,?_,trivial⟩
    unfold Rep A8;rw[ho,hm];exact⟨none,rfl⟩
   |some p=>
    obtain⟨b,cap⟩:=p
    refine⟨.slice (some ⟨b,0,none⟩) (List.length (α:=t.den) xs) cap,?_,trivial⟩
    unfold Rep A8;rw[ho,hm]
  ·rename_i cs ho
   cases h
   obtain⟨b,c,vs,T,h1,_⟩:=hi.obj j _ ho
   refine⟨.pointer (some ⟨b,0,none⟩),?_,trivial⟩
   unfold Rep HC;rw[ho];exact⟨b,c,h1,rfl⟩
  ·rename_i k v es ho
   cases h
   obtain⟨b,c,vs,T,h1,_⟩:=hi.obj j _ ho
   refine⟨.map (some b),?_,trivial⟩
   unfold Rep MZ;rw[ho];exact⟨b,c,h1,rfl⟩
  ·rename_i T t is ho
   cases h
   cases hm:m j with
   |none=>
    refine⟨.slice none 0 0,?_,trivial⟩
    unfold Rep A8;rw[ho,hm];exact⟨none,rfl⟩
   |some p=>
    obtain⟨b,cap⟩:=p
    refine⟨.slice (some ⟨b,0,none⟩) is.length cap,?_,trivial⟩
    unfold Rep A8;rw[ho,hm]
  ·rename_i T e t xs ver out ho
   cases h
   cases hm:m j with
   |none=>
    refine⟨.slice none 0 0,?_,trivial⟩
    unfold Rep A8;rw[ho,hm];exact⟨none,rfl⟩
   |some p=>
    obtain⟨b,cap⟩:=p
    refine⟨.slice (some ⟨b,0,none⟩) (List.length (α:=List t.den) xs) cap,?_,trivial⟩
    unfold Rep A8;rw[ho,hm]
  ·rename_i jk ks e t xs ver out ho
   cases h
   obtain⟨_,h1⟩:=hi.obj j _ ho
   cases hm:m j with
   |none=>rw[hm]at h1;cases h1.1
   |some p=>
    obtain⟨b,cap⟩:=p
    refine⟨.map (some b),?_,trivial⟩
    unfold Rep MZ;rw[ho];exact⟨b,cap,hm,rfl⟩
  ·cases h
theorem AVf.app{l:Loc}{u:Value}(h:AVf w m H bs val l u)(b:Bnd):AVf w m H (bs++[b]) val l u:=by
 cases l with
 |tmp t=>exact h
 |cap t i=>trivial
 |obj j=>trivial
 |cell j c=>
  obtain⟨id,b1,cc,vs,T,cs,h1,h2⟩:=h
  exact⟨id,b1,cc,vs,T,cs,by rw[Ajp (Fx h1)];exact h1,h2⟩
theorem AhE(hb:∀ j b,bs[j]? = some b→BO w F m H fz m' E.heap j b):∀ (vs:List AV) (ps:List (Nat×Nat)) (us:List Value),Aac bs vs ps=true→Ad w F m H vs us→Ad w F m' E.heap (ps.map fun p=>.ptr p.1 p.2) us:=by
 intro vs
 induction vs with
 |nil=>
  intro ps us h hr
  cases ps with
  |nil=>unfold Ad at *;exact hr
  |cons p ps=>simp[Aac]at h
 |cons v vs ih=>
  intro ps us h hr
  cases ps with
  |nil=>cases v<;>simp[Aac]at h
  |cons p ps=>
   obtain⟨j,o'⟩:=p
   cases v<;>simp only[Aac]at h<;>try (cases h;done)
   rename_i id o
   simp only[AjK]at h
   obtain⟨h1,h2⟩:=h
   unfold Ad at hr
   obtain⟨u,us',rfl,hu,hr⟩:=hr
   simp only[Ajr]
   unfold Ad
   refine⟨u,us',rfl,?_,ih ps us' h2 hr⟩
   split at h1
   ·rename_i id' hj
    simp only[AjK,AjJ]at h1
    obtain⟨rfl,rfl⟩:=h1
    exact ASc (hb j _ hj) hu
   ·cases h1
end
end Go.Pev
end
