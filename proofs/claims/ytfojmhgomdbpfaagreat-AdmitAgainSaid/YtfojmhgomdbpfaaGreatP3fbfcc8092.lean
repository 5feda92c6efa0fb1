/- A part of the proofs of this seat: PevOps12 PevMore PevKeys PevKeys2 PevOps11 PevCode PevLocal PevDraw PevDraw2 PevDec PevDec2 PevFlow PevFlow2 PevCall PevCall2 PevCall3 PevCall4 PevTop PevClone. -/
import Derived.Test.YtfojmhgomdbpfaaGreatPa55a070bad
import Derived.Laws.StructEq
import Derived.Laws.BytesArg
import Derived.LoopN
import Derived.Laws.Sem
import Derived.KernelRfl
import Derived.Lib.SliceRun
set_option linter.unusedVariables false
set_option linter.unusedSimpArgs false
set_option linter.unusedSectionVars false
set_option maxRecDepth 100000
section
namespace Go.Pev
open Go.RowKit
section
variable {P:Program} {E:Env}
theorem AOJ(args:Array Operand)(ts:Array TypeId):Claim P E (.call { callee:=.builtin .append,args:=args,argTypes:=ts }):=by
 intro R ty ρ H fz slot k r h
 simp only[evalOp]at h
 split at h
 ·rename_i s x T T' ha hts
  obtain rfl:=AnZ ha
  obtain rfl:=AnZ hts
  split at h
  ·rename_i e t hsl hTT
   simp only[ApQ]at hTT
   subst hTT
   split at h
   ·rename_i ys fr zz hys hz hby
    obtain⟨hu,hty0,hpos⟩:=Cs hsl
    obtain⟨t',cs'⟩:=zz
    obtain⟨hty',hcs',i,z,hi0,hz0,hok,hsz,hza⟩:=B9 hz
    subst hcs'
    have:t'=t:=by rw[hty0]at hty';exact(AqP hty').symm
    subst this
    have hzs:z.cells.size=i.size:=by
     have hzd:=B8 (w:=default) (F:=fun _=>False) t' _ hok
     rw[hsz,← Apl];exact Dat.length t' hzd
    have hby':i.bytes≤1024:=by simpa [hi0]using hby
    split at h
    ·rename_i et hs
     split at h
     ·rename_i hfit
      split at h
      ·rename_i hf
       refine⟨_,_,h,fun R' k'=>by simp only[evalOp,hsl,Apn,hys,hz,hby,hs,hfit,hf],A9 fun w F m ρc o hop hty hi hr => ?_⟩
       have hrs:=hr s
       rw[hs]at hrs
       unfold Rep at hrs
       obtain⟨A,c,q1,q2,q3,news,q4,q5⟩:=EY hi hys (hr x)
       obtain⟨v,w',m',hrun,hg,hrep⟩:=FG (P:=P) (ty:=o.type) hi hf hu hi0 hz0 hzs hsz hpos hby' (by have:(ys.length:Int)≤4294967296:=(Ge _).1 hfit;omega) none (c:=c) q3 q4 q5
       exact⟨v,w',F,m',CD hop hrs q1 hrun,hg,hrep⟩
      ·cases h
     ·cases h
    ·rename_i t2 xs hs
     split at h
     ·rename_i xs' hc hne
      split at h
      ·rename_i hfit
       split at h
       ·rename_i hf
        refine⟨_,_,h,fun R' k'=>by simp only[evalOp,hsl,Apn,hys,hz,hby,hs,hc,hne,hfit,hf],A9 fun w F m ρc o hop hty hi hr => ?_⟩
        obtain⟨et,hx⟩:=EW hc
        subst et;simp only at hx;subst hx
        have hrs:=hr s
        rw[hs]at hrs
        obtain⟨A,c,q1,q2,q3,news,q4,q5⟩:=EY hi hys (hr x)
        have hfit':xs.length+ys.length≤4294967296:=by
         have:((xs.length:Int)+(ys.length:Int))≤4294967296:=(Ge _).1 hfit
         omega
        obtain⟨v,w',m',hrun,hg,hrep⟩:=AUd (P:=P) (ty:=o.type) hi hf hu hi0 hz0 hzs hsz hpos hby' hfit' (by rintro rfl;simp at hne) hrs (c:=c) q3 q4 q5
        exact⟨v,w',F,m',CD hop rfl q1 hrun,hg,hrep⟩
       ·cases h
      ·cases h
     ·cases h
    ·rename_i id hs
     split at h
     ·rename_i e' t2 xs ho
      split at h
      ·rename_i hue
       split at h
       ·rename_i xs' hc
        split at h
        ·rename_i hfit
         split at h
         ·rename_i hkp
          refine⟨_,_,h,fun R' k'=>by simp only[evalOp,hsl,Apn,hys,hz,hby,hs,ho,hue,hc,hfit,hkp],A9 fun w F m ρc o hop hty hi hr => ?_⟩
          simp only[ApU,ApQ]at hue
          obtain⟨hun,rfl⟩:=hue
          obtain⟨et,hx⟩:=EW hc
          subst et;simp only at hx;subst hx
          have hrs:=hr s
          rw[hs]at hrs
          obtain⟨A,c,q1,q2,q3,news,q4,q5⟩:=EY hi hys (hr x)
          have hfit':xs.length+ys.length≤4294967296:=by
           have:((xs.length:Int)+(ys.length:Int))≤4294967296:=(Ge _).1 hfit
           omega
          obtain⟨v,w',F',hrun,hg,hrep⟩:=AUc (P:=P) (ty:=o.type) hi hu hi0 hz0 hzs hsz hpos hby' ho hun hfit' (c:=c) q3 q4 q5 hrs
          exact⟨v,w',F',m,CD hop rfl q1 hrun,hg,hrep⟩
         rename_i hkp
         split at h
         ·rename_i hf
          refine⟨_,_,h,fun R' k'=>by simp only[evalOp,hsl,Apn,hys,hz,hby,hs,ho,hue,hc,hfit,hkp,hf],A9 fun w F m ρc o hop hty hi hr => ?_⟩
          simp only[ApU,ApQ]at hue
          obtain⟨hun,rfl⟩:=hue
          obtain⟨et,hx⟩:=EW hc
          subst et;simp only at hx;subst hx
          have hrs:=hr s
          rw[hs]at hrs
          unfold Rep at hrs
          rw[ho]at hrs
          obtain⟨A,c,q1,q2,q3,news,q4,q5⟩:=EY hi hys (hr x)
          have hfit':xs.length+ys.length≤4294967296:=by
           have:((xs.length:Int)+(ys.length:Int))≤4294967296:=(Ge _).1 hfit
           omega
          have hsn:=ANH hf ho
          cases hm:m id with
          |none=>
           obtain⟨_,hob⟩:=hi.obj id _ ho
           rw[hm]at hrs hob
           obtain⟨a,e1⟩:=hrs
           simp only at hob;subst hob
           have hkill:=Av.kill hi (CF ho hun)
           obtain⟨v,w',m',hrun,hg,hrep⟩:=FG (P:=P) (ty:=o.type) hkill.2 (Kk hf hsn) hu hi0 hz0 hzs hsz hpos hby' (by simpa using hfit') a (c:=c) q3 q4 q5
           exact⟨v,w',F,m',CD hop e1 q1 hrun,hkill.trans hg,hrep⟩
          |some p=>
           obtain⟨b,cap⟩:=p
           rw[hm]at hrs
           simp only[Bh]at hrs
           obtain⟨v,w',m',hrun,hg,hrep⟩:=YM (P:=P) (ty:=o.type) hi hf hu hi0 hz0 hzs hsz hpos hby' ho hun hm (ApY _) hfit' (c:=c) q3 q4 q5
           rw[Ap3]at hg hrep
           exact⟨v,w',F,m',CD hop hrs q1 hrun,hg,hrep⟩
         ·cases h
        ·cases h
       ·cases h
      ·cases h
     ·cases h
    ·rename_i id n hs
     split at h
     ·rename_i e' t2 xs ho
      split at h
      ·rename_i hue
       split at h
       ·rename_i xs' hc
        split at h
        ·rename_i hfit
         split at h
         ·rename_i hf
          refine⟨_,_,h,fun R' k'=>by simp only[evalOp,hsl,Apn,hys,hz,hby,hs,ho,hue,hc,hfit,hf],A9 fun w F m ρc o hop hty hi hr => ?_⟩
          simp only[ApU,ApQ]at hue
          obtain⟨hun,rfl⟩:=hue
          obtain⟨et,hx⟩:=EW hc
          subst et;simp only at hx;subst hx
          have hrs:=hr s
          rw[hs]at hrs
          unfold Rep at hrs
          rw[ho]at hrs
          obtain⟨hle,hrs⟩:=hrs
          obtain⟨A,c,q1,q2,q3,news,q4,q5⟩:=EY hi hys (hr x)
          have hfit':n+ys.length≤4294967296:=by
           have:((n:Int)+(ys.length:Int))≤4294967296:=(Ge _).1 hfit
           omega
          have hsn:=ANH hf ho
          obtain⟨_,hob⟩:=hi.obj id _ ho
          have zero:∀ a,n=0→ρc s = .slice a 0 0→∃ u w' F' m',(execOp ρc o).run P w = .ok (.value u) w'∧Av w F m H fz w' F' m' ((H.set id .dead).set slot (.arr e _ (BX (Bu n xs) ys))) fz ∧
            Rep w' F' m' ((H.set id .dead).set slot (.arr e _ (BX (Bu n xs) ys))) (.own slot) u:=by
           intro a h0 e1
           subst h0
           have hkill:=Av.kill hi (CF ho hun)
           obtain⟨v,w',m',hrun,hg,hrep⟩:=FG (P:=P) (ty:=o.type) hkill.2 (Kk hf hsn) hu hi0 hz0 hzs hsz hpos hby' (by simpa using hfit') a (c:=c) q3 q4 q5
           exact⟨v,w',F,m',CD hop e1 q1 hrun,hkill.trans hg,hrep⟩
          cases hm:m id with
          |none=>
           rw[hm]at hrs hob
           obtain⟨a,e1⟩:=hrs
           simp only at hob;subst hob
           have hn:n=0:=by simpa using hle
           exact zero a hn (by rw[e1,hn])
          |some p=>
           obtain⟨b,cap⟩:=p
           rw[hm]at hrs hob
           obtain⟨a,e1,e2⟩:=hrs
           obtain⟨vs,row,o1,o2,_⟩:=hob
           rcases AqL cap with hcap|hcap
           ·exact zero a (by omega) (by rw[e1,hcap,show n=0 from by omega])
           ·have ha:=e2 hcap
            rw[Ara]at ha
            subst ha
            obtain⟨v,w',m',hrun,hg,hrep⟩:=YM (P:=P) (ty:=o.type) hi hf hu hi0 hz0 hzs hsz hpos hby' ho hun hm (n:=n) (by omega) hfit' (c:=c) q3 q4 q5
            exact⟨v,w',F,m',CD hop e1 q1 hrun,hg,hrep⟩
         ·cases h
        ·cases h
       ·cases h
      ·cases h
     ·cases h
    ·cases h
   ·cases h
  ·rename_i e t hsl hTT
   split at h
   ·rename_i et j n zz kk hs hx hz hk hby
    split at h
    ·rename_i hfit
     split at h
     ·rename_i hf
      refine⟨_,_,h,fun R' k'=>by simp only[evalOp,hsl,hTT,hs,hx,hz,hk,hby,hfit,hf],A9 fun w F m ρc o hop hty hi hr => ?_⟩
      obtain⟨hu,hty0,hpos⟩:=Cs hsl
      obtain⟨t',cs'⟩:=zz
      obtain⟨hty',hcs',i,z,hi0,hz0,hok,hsz,hza⟩:=B9 hz
      subst hcs'
      have:t'=t:=by rw[hty0]at hty';exact(AqP hty').symm
      subst this
      rw[N5]at hfit
      obtain⟨n',rfl⟩:=Apa hfit.1
      have hrs:=hr s
      rw[hs]at hrs
      unfold Rep at hrs
      have e2:=BD (hx▸hr x)
      have hby':i.bytes≤1024:=by simpa [hi0]using hby
      obtain⟨v,w',m',hrun,hg,hrep⟩:=AUb (P:=P) (ty:=o.type) hi hf hu hi0 hz0 hok hsz hpos hby' (X0 hk) (kx:=j) (n:=n') (by omega)
      exact⟨v,w',F,m',ANQ hop hrs e2 hrun,hg,hrep⟩
     ·cases h
    ·cases h
   ·cases h
  ·rename_i hsl hTT
   simp only[ApQ]at hTT
   subst hTT
   split at h
   ·rename_i e ix hce hx
    split at h
    ·rename_i e1 tgt ys hox
     split at h
     ·rename_i he
      simp only[ApQ]at he
      subst he
      obtain⟨hu,ii,z,hi0,hz0,hsz,hzs,hby⟩:=YI hce
      split at h
      ·rename_i et hs
       split at h
       ·rename_i hfit
        split at h
        ·rename_i hf
         refine⟨_,_,h,fun R' k'=>by simp only[evalOp,hsl,Apn,hce,hx,hox,hs,hfit,hf],A9 fun w F m ρc o hop hty hi hr => ?_⟩
         have hrs:=hr s
         rw[hs]at hrs
         unfold Rep at hrs
         obtain⟨A,c,q1,q2,news,q3,q4,q5⟩:=Ans hi hox (hx▸hr x)
         obtain⟨v,w',m',hrun,hg,hrep⟩:=J7 (P:=P) (ty:=o.type) hi hf hu hi0 hz0 hzs hsz hby (by have:(ys.length:Int)≤4294967296:=(Ge _).1 hfit;omega) none (c:=c) q2 q3 q4 q5
         exact⟨v,w',F,m',CD hop hrs q1 hrun,hg,hrep⟩
        ·cases h
       ·cases h
      ·rename_i id hs
       split at h
       ·rename_i e2 tgt2 xs ho
        split at h
        ·rename_i hue
         split at h
         ·rename_i hfit
          split at h
          ·rename_i hf
           refine⟨_,_,h,fun R' k'=>by simp only[evalOp,hsl,Apn,hce,hx,hox,hs,ho,hue,hfit,hf],A9 fun w F m ρc o hop hty hi hr => ?_⟩
           simp only[ApU,ApQ]at hue
           obtain⟨rfl,rfl⟩:=hue
           have hrs:=hr s
           rw[hs]at hrs
           unfold Rep at hrs
           rw[ho]at hrs
           obtain⟨A,c,q1,q2,news,q3,q4,q5⟩:=Ans hi hox (hx▸hr x)
           have hfit':xs.length+ys.length≤4294967296:=by
            have:((xs.length:Int)+(ys.length:Int))≤4294967296:=(Ge _).1 hfit
            omega
           have hsn:=AS8 hf ho
           cases hm:m id with
           |none=>
            have hob:=hi.obj id _ ho
            rw[hm]at hrs hob
            obtain⟨a,e1⟩:=hrs
            have hob:xs=[]:=hob
            subst hob
            have hkill:=Av.kill hi (AId ho)
            obtain⟨v,w',m',hrun,hg,hrep⟩:=J7 (P:=P) (ty:=o.type) hkill.2 (Kk hf hsn) hu hi0 hz0 hzs hsz hby (by simpa using hfit') a (c:=c) q2 (hkill.1.ApF hi q3) q4 q5
            exact⟨v,w',F,m',CD hop e1 q1 hrun,hkill.trans hg,hrep⟩
           |some p=>
            obtain⟨b,cap⟩:=p
            rw[hm]at hrs
            simp only[Bh]at hrs
            obtain⟨v,w',m',hrun,hg,hrep⟩:=ZE (P:=P) (ty:=o.type) hi hf hu hi0 hz0 hzs hsz hby ho hm hfit' (c:=c) q2 q3 q4 q5
            exact⟨v,w',F,m',CD hop hrs q1 hrun,hg,hrep⟩
          ·cases h
         ·cases h
        ·cases h
       ·cases h
      ·cases h
     ·cases h
    ·cases h
   ·cases h
  ·cases h
 ·cases h
end
end Go.Pev
end
section
namespace Go.Pev
open Go.RowKit
section
variable {P:Program} {E:Env}
theorem Afx(args:Array Operand)(ts:Array TypeId):Claim P E (.call { callee:=.builtin .cap,args:=args,argTypes:=ts }):=by
 intro R ty ρ H fz slot k r h
 simp only[evalOp]at h
 split at h
 ·rename_i x T ha hts
  obtain rfl:=AgI ha
  obtain rfl:=AgI hts
  split at h
  ·rename_i e et hu hx
   refine⟨_,_,h,fun R' k'=>by simp only[evalOp,hu,hx],Ac fun w F m ρc o hop hty hi hr=>⟨.int .i64 0,?_,Ax _ _⟩⟩
   have hrx:=hr x
   rw[hx]at hrx
   unfold Rep at hrx
   simp[execOp,hop,resolve,invoke,builtin,hrx,Builtin.cap_,run_underlying hu,goInt]
  ·cases h
 ·cases h
theorem Afu(args:Array Operand)(ts:Array TypeId):Claim P E (.call { callee:=.builtin .min,args:=args,argTypes:=ts }):=by
 intro R ty ρ H fz slot k r h
 simp only[evalOp]at h
 split at h
 ·rename_i x y ha
  obtain rfl:=AnZ ha
  split at h
  ·rename_i j a j' b hx hy
   refine⟨_,_,h,fun R' k'=>by simp only[evalOp,hx,hy],Ac fun w F m ρc o hop hty hi hr=>⟨.int j (B4 a b),?_,Ax _ _⟩⟩
   have e1:=BD (hx▸hr x)
   have e2:=BD (hy▸hr y)
   simp[execOp,hop,resolve,invoke,builtin,e1,e2,run_min_int2,B4]
  ·cases h
 ·cases h
theorem AGe{w:World}(ts:Array TypeId)(t:TypeId)(k k':IntKind)(x y:Int):(Builtin.max_ ts t #[.int k x,.int k' y]).run P w = .ok (.int k (if y > x then y else x)) w:=by
 simp[Builtin.max_,Builtin.max2]
theorem Afv(args:Array Operand)(ts:Array TypeId):Claim P E (.call { callee:=.builtin .max,args:=args,argTypes:=ts }):=by
 intro R ty ρ H fz slot k r h
 simp only[evalOp]at h
 split at h
 ·rename_i x y ha
  obtain rfl:=AnZ ha
  split at h
  ·rename_i j a j' b hx hy
   refine⟨_,_,h,fun R' k'=>by simp only[evalOp,hx,hy],Ac fun w F m ρc o hop hty hi hr=>⟨.int j (imax a b),?_,Ax _ _⟩⟩
   have e1:=BD (hx▸hr x)
   have e2:=BD (hy▸hr y)
   simp[execOp,hop,resolve,invoke,builtin,e1,e2,AGe,imax]
  ·cases h
 ·cases h
theorem AQH{H:List Ob}{i:Nat}{o:Ob}(h:H[i]? = some o):H.set i o=H:=by
 apply AqY
 intro j
 by_cases hij:j=i
 ·subst hij;rw[BM (At h),h]
 ·rw[A1 hij]
theorem AEl{α:Type}{off n:Nat}{z:α}{xs:List α}(h:off+n≤xs.length):(Br off n z xs).length=xs.length:=by
 simp only[Br,ApS,Api,AqD,AqS];omega
theorem ATi{α:Type}(off:Nat)(z:α)(xs:List α):Br off 0 z xs=xs:=by simp[Br]
theorem AJq{w:World}{F:Nat→Prop}{m:Mp}{H:List Ob}{fz:List Bool}(hi:HI w F m H fz){id:Nat}{T:TypeId}{t:Ty}{xs:List t.den}(ho:H[id]? = some (.arr T t xs))(hf:Ap fz id=true)
  {b cap:Nat} (hm:m id=some (b,cap)) {off n:Nat} (hle:off+n≤xs.length) {z:List Value} (hz:Dat w F t t.zero z) (h1:∀ u∈z,u.oneCell'=true) {zs:Array Value} (hzs:zs.toList=(List.replicate n z).flatten) :
  ∃ w',(storeCells ⟨b,off*t.size,none⟩ zs.toList).run P w = .ok () w'∧Av w F m H fz w' F m (H.set id (.arr T t (Br off n t.zero xs))) fz:=by
 have hob:=hi.obj id _ ho
 obtain⟨h0,hob⟩:=hob
 rw[hm]at hob
 obtain⟨vs,row,e1,e2,e3,e4,e7,e8⟩:=hob
 have hk:=fun(x:t.den) cs (h:Dat w F t x cs)=>Dat.length t h
 have hlen:=A7 hk e7
 have hrz:=Ew (w:=w) (F:=F) hz n
 have hdl:=A7 hk hrz
 rw[AqD,← hzs]at hdl
 have hle1:off*t.size+n*t.size≤xs.length*t.size:=by
  have:=AqC t.size hle
  rwa [AqW]at this
 have hle2:xs.length*t.size≤cap*t.size:=AqC _ e2
 have hvl:vs.toList.length=cap*t.size:=by rw[Apl,e4]
 have hst:=run_storeCells_at P b (off*t.size) T zs.toList 0 vs w e1 (by simp only[Aqp,hdl,e4];omega) (by
  intro u hu
  rw[hzs,List.mem_flatten]at hu
  obtain⟨l,hl,hul⟩:=hu
  rw[Arc hl]at hul
  exact h1 u hul)
 simp only[Aqp,hdl]at hst
 obtain⟨r1,r2,r3,r4,r5⟩:=MQ (w:=w) (b:=b) (cs:=(vs.toList.take (off*t.size)++zs.toList++vs.toList.drop (off*t.size+n*t.size)).toArray)
 refine⟨_,hst,?_⟩
 refine Av.set hi (CF ho hf) hm ho ⟨rfl,(AEl hle).symm⟩ r1 r2 r3 r4 r5 fun hmono => ?_
 refine⟨h0,?_⟩
 rw[hm]
 refine⟨_,row.take (off*t.size)++(zs.toList++row.drop (off*t.size+n*t.size)),setRow_heap w b vs _ T _ e1,by rw[AEl hle];exact e2,e3,?_,?_,?_⟩
 ·simp only[Aqg,ApS,Api,AqS,hvl,hdl];omega
 ·have hcell:∀ a:Addr,F a.block→(w.setRow b (vs.toList.take (off*t.size)++zs.toList++vs.toList.drop (off*t.size+n*t.size)).toArray).cell? a=w.cell? a:=fun a ha=>
   cell_setRow_other w b _ a (by rintro rfl;exact hi.off id _ cap (CF ho hf) hm ha)
  refine BN (R:=Dat w F t) (fun x _ cs hx=>hx.mono hcell (fun _ h=>h) t) ?_
  have:=HL hk (off+n) e7
  rw[AqW]at this
  exact Jc (Df hk off e7) (Jc (by rw[hzs];exact hrz) this)
 ·have hrl:(row.take (off*t.size)++(zs.toList++row.drop (off*t.size+n*t.size))).length=row.length:=by
   simp only[ApS,Api,AqS,hdl];omega
  rw[hrl]
  show List.take row.length (vs.toList.take (off*t.size)++zs.toList++vs.toList.drop (off*t.size+n*t.size))=_
  have h1:row.take (off*t.size)=vs.toList.take (off*t.size):=by
   rw[← e8,Arf,Aqn (by omega)]
  have h2:row.drop (off*t.size+n*t.size)=(vs.toList.drop (off*t.size+n*t.size)).take (row.length-(off*t.size+n*t.size)):=by
   conv=>lhs;rw[← e8]
   rw[List.drop_take]
  rw[h1,h2,ArR,AqJ (by simp only[ApS,Api,hvl,hdl];omega),Ap1]
  congr 3
  simp only[ApS,Api,hvl,hdl];omega
theorem Ht{w w':World}{ρc:Operand→Value}{o:Oper}{T:TypeId}{x:Operand}{v:Value}(hop:o.op = .call { callee:=.builtin .clear,args:=#[x],argTypes:=#[T] })(e1:ρc x=v)
  (hrun:(Builtin.clear_ #[T] o.type #[v]).run P w = .ok (.tuple #[]) w'):(execOp ρc o).run P w = .ok (.value (.tuple #[])) w':=by simp[execOp,hop,resolve,invoke,builtin,e1,hrun]
theorem HX{w:World}{T e ty:TypeId}(hu:P.underlying T=some (.slice e))(a:Option Addr)(c:Nat):(Builtin.clear_ #[T] ty #[.slice a 0 c]).run P w = .ok (.tuple #[]) w:=by
 cases a<;>simp[Builtin.clear_,run_underlying hu]
theorem MT{w w':World}{T e ty:TypeId}(hu:P.underlying T=some (.slice e)){i:TypeInfo}{z:Value}(hi0:P.info? e=some i)(hz:i.zero=some z)(a:Addr){n:Nat}(hn:0<n)(c:Nat)
  (h:(storeCells a (Builtin.zeroCells z.cells n).toList).run P w = .ok () w'):(Builtin.clear_ #[T] ty #[.slice (some a) n c]).run P w = .ok (.tuple #[]) w':=by
 obtain⟨m,rfl⟩:∃ m,n=m+1:=⟨n-1,by omega⟩
 simp[Builtin.clear_,run_underlying hu,Bn hi0 hz,h]
theorem Abe{w:World}{F:Nat→Prop}{t:Ty}{d:t.den}{z:List Value}(h:Dat w F t d z):∀ u∈z,u.oneCell'=true:=fun u hu=>Dat.IV t h u hu
theorem AT3(args:Array Operand)(ts:Array TypeId):Claim P E (.call { callee:=.builtin .clear,args:=args,argTypes:=ts }):=by
 intro R ty ρ H fz slot k r h
 simp only[evalOp]at h
 split at h
 ·rename_i x T ha hts
  obtain rfl:=AgI ha
  obtain rfl:=AgI hts
  split at h
  ·rename_i e t hsl
   split at h
   ·rename_i zz hz
    obtain⟨hu,hty0,hpos⟩:=Cs hsl
    obtain⟨t',cs'⟩:=zz
    obtain⟨hty',hcs',i,z,hi0,hz0,hok,hsz,hza⟩:=B9 hz
    subst hcs'
    have:t'=t:=by rw[hty0]at hty';exact(AqP hty').symm
    subst this
    have hcells:∀ k,(Builtin.zeroCells z.cells k).toList=(List.replicate k z.cells.toList).flatten:=Dh z.cells
    split at h
    ·rename_i et hx
     refine⟨_,_,h,fun R' k'=>by simp only[evalOp,hsl,hz,hx],A9 fun w F m ρc o hop hty hi hr => ?_⟩
     have hrx:=hr x
     rw[hx]at hrx
     unfold Rep at hrx
     exact⟨_,w,F,m,Ht hop hrx (HX hu _ _),Av.refl hi,by unfold Rep;trivial⟩
    ·rename_i id hx
     split at h
     ·rename_i e' t2 xs ho
      split at h
      ·rename_i hun
       refine⟨_,_,h,fun R' k'=>by simp only[evalOp,hsl,hz,hx,ho,hun],A9 fun w F m ρc o hop hty hi hr => ?_⟩
       simp only[ApU,ApQ]at hun
       obtain⟨hun,ht⟩:=hun
       subst ht
       have hzd:=B8 (w:=w) (F:=F) t' _ hok
       have hrx:=hr x
       rw[hx]at hrx
       unfold Rep at hrx
       rw[ho]at hrx
       obtain⟨_,hob⟩:=hi.obj id _ ho
       have none_:xs=[]→∀ a c,ρc x = .slice a 0 c→∃ u w' F' m',(execOp ρc o).run P w = .ok (.value u) w'∧Av w F m H fz w' F' m' (Ck { objs:=[(id,.arr e' t' (Br 0 xs.length t'.zero xs))] } H) (GC { objs:=[(id,.arr e' t' (Br 0 xs.length t'.zero xs))] } fz) ∧
         Rep w' F' m' (Ck { objs:=[(id,.arr e' t' (Br 0 xs.length t'.zero xs))] } H) .junk u:=by
        intro hxs a c e1
        refine⟨_,w,F,m,Ht hop e1 (HX hu _ _),?_,by unfold Rep;trivial⟩
        have:Br 0 xs.length t'.zero xs=xs:=by rw[hxs];rfl
        rw[this]
        have hs:Ck { objs:=[(id,.arr e' t' xs)] } H=H:=AQH ho
        rw[hs]
        exact Av.refl hi
       cases hm:m id with
       |none=>
        rw[hm]at hrx hob
        obtain⟨a,e1⟩:=hrx
        simp only at hob
        exact none_ hob a 0 e1
       |some p=>
        obtain⟨b,cap⟩:=p
        rw[hm]at hrx
        simp only[Bh]at hrx
        rcases AqL xs.length with hl|hl
        ·exact none_ (Apq hl) (some ⟨b,0,none⟩) cap (by rw[hrx,hl])
        ·obtain⟨w',hst,hg⟩:=AJq (P:=P) hi ho hun hm (off:=0) (n:=xs.length) (by omega) hzd (Abe hzd) (hcells xs.length)
         rw[Ara]at hst
         exact⟨_,w',F,m,Ht hop hrx (MT hu hi0 hz0 _ hl _ hst),hg,by unfold Rep;trivial⟩
      ·cases h
     ·cases h
    ·rename_i id off n hx
     split at h
     ·rename_i e' t2 xs ho
      split at h
      ·rename_i hun
       refine⟨_,_,h,fun R' k'=>by simp only[evalOp,hsl,hz,hx,ho,hun],A9 fun w F m ρc o hop hty hi hr => ?_⟩
       simp only[ApU,ApQ]at hun
       obtain⟨hun,ht⟩:=hun
       subst ht
       have hzd:=B8 (w:=w) (F:=F) t' _ hok
       have hrx:=hr x
       rw[hx]at hrx
       unfold Rep at hrx
       rw[ho]at hrx
       obtain⟨hle,hrx⟩:=hrx
       obtain⟨_,hob⟩:=hi.obj id _ ho
       have none_:n=0→∀ a c,ρc x = .slice a n c→∃ u w' F' m',(execOp ρc o).run P w = .ok (.value u) w'∧Av w F m H fz w' F' m' (Ck { objs:=[(id,.arr e' t' (Br off n t'.zero xs))] } H) (GC { objs:=[(id,.arr e' t' (Br off n t'.zero xs))] } fz) ∧
         Rep w' F' m' (Ck { objs:=[(id,.arr e' t' (Br off n t'.zero xs))] } H) .junk u:=by
        intro hxs a c e1
        subst hxs
        refine⟨_,w,F,m,Ht hop e1 (HX hu _ _),?_,by unfold Rep;trivial⟩
        rw[ATi]
        have hs:Ck { objs:=[(id,.arr e' t' xs)] } H=H:=AQH ho
        rw[hs]
        exact Av.refl hi
       cases hm:m id with
       |none=>
        rw[hm]at hrx hob
        obtain⟨a,e1⟩:=hrx
        simp only at hob
        subst hob
        exact none_ (by simp at hle;omega) a 0 e1
       |some p=>
        obtain⟨b,cap⟩:=p
        rw[hm]at hrx hob
        obtain⟨vs,row,o1,o2,_⟩:=hob
        obtain⟨a,e1,e2⟩:=hrx
        rcases AqL n with hl|hl
        ·exact none_ hl a _ e1
        ·have ha:=e2 (by omega)
         subst ha
         obtain⟨w',hst,hg⟩:=AJq (P:=P) hi ho hun hm (off:=off) (n:=n) hle hzd (Abe hzd) (hcells n)
         exact⟨_,w',F,m,Ht hop e1 (MT hu hi0 hz0 _ hl _ hst),hg,by unfold Rep;trivial⟩
      ·cases h
     ·cases h
    ·cases h
   ·cases h
  ·cases h
 ·cases h
end
end Go.Pev
end
section
namespace Go.Pev
open Go.RowKit
section
variable {P:Program}
def Cp:(t:Ty)→t.den→List Value
 |.unit,_=>[]
 |.bool,b=>[.bool b]
 |.int k,n=>[.int k n]
 |.prod a b,d=>Cp a d.1++Cp b d.2
 |.slice _,_=>[]
 |.arr _ _,_=>[]
 |.nul _,_=>[]
def B2(t:Ty)(d:t.den):Value:=match t,d with
 |.int k,n=>.int k n
 |t,d=>.agg (Cp t d).toArray
structure AgP(P:Program)(kt:TypeId)(t:Ty):Prop where
 rep:∀ (w:World) (F:Nat→Prop) (d:t.den) (v:Value),Bj w F t d v↔v=B2 t d
 check:∀ (w:World) (b:Bool) (d:t.den),(Instr.checkKey b 10000 kt (B2 t d)).run P w = .ok () w
 stays:∀ (w:World) (d:t.den),(Instr.keyThatStays (B2 t d) (B2 t d)).run P w = .ok (B2 t d) w
 find:∀ (w:World) (F:Nat→Prop) (b:Ty) (key:t.den) (es:List (t.den×b.den)) (ms:List MapEntry),IK w F t b es ms →
  (@Dw _ _ (decDen t) es key=none∧@AS _ _ (decDen t) es key=none∧(Instr.findKey kt (B2 t key) ms).run P w = .ok none w) ∨
  (∃ x n me,@Dw _ _ (decDen t) es key=some n∧@AS _ _ (decDen t) es key=some x∧(Instr.findKey kt (B2 t key) ms).run P w = .ok (some (n,me.val)) w∧ms[n]? = some me∧Bj w F b x me.val∧me.key=B2 t key)
theorem AgP.store{kt:TypeId}{t:Ty}(hK:AgP P kt t){w:World}{F:Nat→Prop}{b:Ty}(key:t.den)(val:b.den)(v:Value)(hv:Bj w F b val v):∀ {es:List (t.den×b.den)} {ms:List MapEntry},IK w F t b es ms →
  (∀ clock,@Dw _ _ (decDen t) es key=none→IK w F t b (@Ae _ _ (decDen t) es key val) (ms++[{ key:=B2 t key,val:=v,born:=clock }])) ∧
  (∀ n,@Dw _ _ (decDen t) es key=some n→IK w F t b (@Ae _ _ (decDen t) es key val) (ms.modify n fun e=>{ e with key:=B2 t key,val:=v })):=by
 haveI:=decDen t
 intro es
 induction es with
 |nil=>
  rintro ms rfl
  exact⟨fun clock _=>⟨_,[],rfl,⟨(hK.rep w F key _).2 rfl,hv⟩,rfl⟩,fun n h=>by simp[Dw]at h⟩
 |cons e es ih=>
  rintro ms ⟨me0,ms',rfl,⟨h1,h2⟩,h3⟩
  obtain⟨a,x⟩:=e
  obtain⟨ih1,ih2⟩:=ih h3
  by_cases hak:a=key
  ·subst hak
   refine⟨fun clock h=>by simp[Dw]at h,fun n h => ?_⟩
   simp only[Dw,Ap6,ApN]at h
   subst h
   simp only[Ae,Ap6,List.modify_zero_cons]
   exact⟨_,ms',rfl,⟨(hK.rep w F a _).2 rfl,hv⟩,h3⟩
  ·simp only[Ae,hak,Apf,Dw]
   refine⟨fun clock h => ?_,fun n h => ?_⟩
   ·rw[Ase]at h
    exact⟨me0,_,rfl,⟨h1,h2⟩,ih1 clock h⟩
   ·rw[Ape]at h
    obtain⟨n',h',rfl⟩:=h
    rw[List.modify_succ_cons]
    exact⟨me0,_,rfl,⟨h1,h2⟩,ih2 n' h'⟩
theorem AmX{kt:TypeId}{j:IntKind}(hu:P.underlying kt=some (.int j)):AgP P kt (.int j):=by
 have hrep:∀ (w:World) (F:Nat→Prop) (d:Int) (v:Value),Bj w F (.int j) d v↔v = .int j d:=by
  intro w F d v
  show Dat w F (.int j) d [v]↔_
  simp[Dat]
 refine⟨hrep,fun w b d => ?_,fun w d => ?_,fun w F b key es ms h => ?_⟩
 ·have gen:∀ n,(Instr.checkKey b (n+1) kt (.int j d)).run P w = .ok () w:=fun n=>by simp[Instr.checkKey,run_underlying hu]
  exact gen 9999
 ·have gen:∀ n,Instr.sameBits n (.int j d) (.int j d)=true:=fun n=>by cases n<;>simp[Instr.sameBits]
  show(Instr.keyThatStays (.int j d) (.int j d)).run P w=_
  simp[Instr.keyThatStays,gen]
  rfl
 ·have hfk:∀ r,Instr.findNow (.int j) (.int j key) ms 0=some r→(Instr.findKey kt (.int j key) ms).run P w = .ok r w:=by
   intro r hr'
   simp[Instr.findKey,run_underlying hu,hr']
  have gen:∀ (es:List (Int×b.den)) (ms:List MapEntry) (i:Nat),IK w F (.int j) b es ms →
    (Dw (α:=Int) es key=none∧AS (α:=Int) es key=none∧Instr.findNow (.int j) (.int j key) ms i=some none) ∨
    (∃ x n me,Dw (α:=Int) es key=some n∧AS (α:=Int) es key=some x∧Instr.findNow (.int j) (.int j key) ms i=some (some (i+n,me.val))∧ms[n]? = some me∧Bj w F b x me.val∧me.key = .int j key):=by
   intro es
   induction es with
   |nil=>rintro ms i rfl;exact .inl ⟨rfl,rfl,rfl⟩
   |cons e es ih=>
    rintro ms i ⟨me,ms',rfl,⟨h1,h2⟩,h3⟩
    obtain⟨a,x⟩:=e
    have hk:=(hrep w F a _).1 h1
    simp only at h2
    by_cases hak:a=key
    ·subst hak
     refine .inr ⟨x,0,me,by simp[Dw],by simp[AS],?_,rfl,h2,hk⟩
     simp[Instr.findNow,Instr.sameNow,hk]
    ·have hfn:Instr.findNow (.int j) (.int j key) (me::ms') i=Instr.findNow (.int j) (.int j key) ms' (i+1):=by
      have:(key==a)=false:=by simp;exact fun h=>hak h.symm
      simp[Instr.findNow,Instr.sameNow,hk,this]
     rcases ih ms' (i+1) h3 with⟨q0,q1,q2⟩|⟨y,n,me',q0,q1,q2,q3,q4,q5⟩
     ·exact .inl ⟨by simp[Dw,hak,q0],by simp[AS,hak,q1],by rw[hfn];exact q2⟩
     ·exact .inr ⟨y,n+1,me',by simp[Dw,hak,q0],by simp[AS,hak,q1],by rw[hfn,q2,show i+1+n=i+(n+1)from by omega],by simpa using q3,q4,q5⟩
  rcases gen es ms 0 h with⟨q0,q1,q2⟩|⟨x,n,me,q0,q1,q2,q3,q4,q5⟩
  ·exact .inl ⟨q0,q1,hfk _ q2⟩
  ·rw[Aqe]at q2
   exact .inr ⟨x,n,me,q0,q1,hfk _ q2,q3,q4,q5⟩
theorem Rw{w:World}{F:Nat→Prop}:∀ (t:Ty) {n:List Bool},kinds? t=some n→∀ (d:t.den) (cs:List Value),Dat w F t d cs↔cs=Cp t d
 |.unit,_,_,d,cs=>Iff.rfl
 |.prod (.int k) r,n,h,d,cs=>by
  simp only[kinds?,Ape]at h
  obtain⟨n',h',rfl⟩:=h
  constructor
  ·rintro⟨c1,c2,rfl,h1,h2⟩
   rw[(Rw r h' d.2 c2).1 h2]
   have h1:c1=[.int k d.1]:=h1
   rw[h1];rfl
  ·rintro rfl
   exact⟨[.int k d.1],Cp r d.2,rfl,rfl,(Rw r h' d.2 _).2 rfl⟩
 |.prod .bool r,n,h,d,cs=>by
  simp only[kinds?,Ape]at h
  obtain⟨n',h',rfl⟩:=h
  constructor
  ·rintro⟨c1,c2,rfl,h1,h2⟩
   rw[(Rw r h' d.2 c2).1 h2]
   have h1:c1=[.bool d.1]:=h1
   rw[h1];rfl
  ·rintro rfl
   exact⟨[.bool d.1],Cp r d.2,rfl,rfl,(Rw r h' d.2 _).2 rfl⟩
 |.prod .unit _,_,h,_,_=>by simp[kinds?]at h
 |.prod (.slice _) _,_,h,_,_=>by simp[kinds?]at h
 |.prod (.prod _ _) _,_,h,_,_=>by simp[kinds?]at h
 |.prod (.arr _ _) _,_,h,_,_=>by simp[kinds?]at h
 |.bool,_,h,_,_=>by simp[kinds?]at h
 |.int _,_,h,_,_=>by simp[kinds?]at h
 |.slice _,_,h,_,_=>by simp[kinds?]at h
 |.arr _ _,_,h,_,_=>by simp[kinds?]at h
theorem Vp:∀ (t:Ty) {n:List Bool},kinds? t=some n→∀ (d d':t.den),BE n (BH t d) (BH t d')=some (@decide (d=d') (decDen t d d'))
 |.unit,n,h,d,d'=>by
  simp only[kinds?,ApN]at h
  subst h
  cases d;cases d'
  simp[BH,BE]
 |.prod (.int k) r,n,h,d,d'=>by
  simp only[kinds?,Ape]at h
  obtain⟨n',h',rfl⟩:=h
  obtain⟨a,x⟩:=d
  obtain⟨b,y⟩:=d'
  have:=Vp r h' x y
  simp only[BH,AsE,BE,Apn,this,CN]
  congr 1
  by_cases h1:a=b
  ·subst h1
   by_cases h2:x=y
   ·subst h2;simp
   ·simp[h2]
  ·simp[h1]
 |.prod .bool r,n,h,d,d'=>by
  simp only[kinds?,Ape]at h
  obtain⟨n',h',rfl⟩:=h
  obtain⟨a,x⟩:=d
  obtain⟨b,y⟩:=d'
  have:=Vp r h' x y
  simp only[BH,AsE,BE,this]
  congr 1
  by_cases h1:a=b
  ·subst h1
   by_cases h2:x=y
   ·subst h2;simp
   ·simp[h2]
  ·simp[h1]
 |.prod .unit _,_,h,_,_=>by simp[kinds?]at h
 |.prod (.slice _) _,_,h,_,_=>by simp[kinds?]at h
 |.prod (.prod _ _) _,_,h,_,_=>by simp[kinds?]at h
 |.prod (.arr _ _) _,_,h,_,_=>by simp[kinds?]at h
 |.bool,_,h,_,_=>by simp[kinds?]at h
 |.int _,_,h,_,_=>by simp[kinds?]at h
 |.slice _,_,h,_,_=>by simp[kinds?]at h
 |.arr _ _,_,h,_,_=>by simp[kinds?]at h
theorem Ps:∀ (t:Ty) {n:List Bool},kinds? t=some n→∀ (d:t.den),∀ v∈Cp t d,(∃ k i,v = .int k i)∨∃ b,v = .bool b
 |.unit,_,_,d,v,hv=>by simp[Cp]at hv
 |.prod (.int k) r,n,h,d,v,hv=>by
  simp only[kinds?,Ape]at h
  obtain⟨n',h',rfl⟩:=h
  simp only[Cp,AsE,ApT]at hv
  rcases hv with rfl|hv
  ·exact .inl ⟨_,_,rfl⟩
  ·exact Ps r h' d.2 v hv
 |.prod .bool r,n,h,d,v,hv=>by
  simp only[kinds?,Ape]at h
  obtain⟨n',h',rfl⟩:=h
  simp only[Cp,AsE,ApT]at hv
  rcases hv with rfl|hv
  ·exact .inr ⟨_,rfl⟩
  ·exact Ps r h' d.2 v hv
 |.prod .unit _,_,h,_,_,_=>by simp[kinds?]at h
 |.prod (.slice _) _,_,h,_,_,_=>by simp[kinds?]at h
 |.prod (.prod _ _) _,_,h,_,_,_=>by simp[kinds?]at h
 |.prod (.arr _ _) _,_,h,_,_,_=>by simp[kinds?]at h
 |.bool,_,h,_,_,_=>by simp[kinds?]at h
 |.int _,_,h,_,_,_=>by simp[kinds?]at h
 |.slice _,_,h,_,_,_=>by simp[kinds?]at h
 |.arr _ _,_,h,_,_,_=>by simp[kinds?]at h
theorem Jr{t:Ty}{n:List Bool}(h:kinds? t=some n)(d:t.den):B2 t d = .agg (Cp t d).toArray∧t.isAgg=true:=by
 cases t<;>first|exact⟨rfl,rfl⟩|(simp[kinds?]at h)
end
end Go.Pev
end
section
namespace Go.Pev
open Go.RowKit
section
variable {P:Program}
theorem Pt:∀ (t:Ty) {n:List Bool},kinds? t=some n→∀ (d:t.den),(Cp t d).length=n.length
 |.unit,n,h,d=>by simp only[kinds?,ApN]at h;subst h;rfl
 |.prod (.int k) r,n,h,d=>by
  simp only[kinds?,Ape]at h
  obtain⟨n',h',rfl⟩:=h
  simp[Cp,Pt r h' d.2]
 |.prod .bool r,n,h,d=>by
  simp only[kinds?,Ape]at h
  obtain⟨n',h',rfl⟩:=h
  simp[Cp,Pt r h' d.2]
 |.prod .unit _,_,h,_=>by simp[kinds?]at h
 |.prod (.slice _) _,_,h,_=>by simp[kinds?]at h
 |.prod (.prod _ _) _,_,h,_=>by simp[kinds?]at h
 |.prod (.arr _ _) _,_,h,_=>by simp[kinds?]at h
 |.bool,_,h,_=>by simp[kinds?]at h
 |.int _,_,h,_=>by simp[kinds?]at h
 |.slice _,_,h,_=>by simp[kinds?]at h
 |.arr _ _,_,h,_=>by simp[kinds?]at h
theorem AOO{w:World}{T:TypeId}(h:MR P T=true)(b:Bool)(n:Nat){v:Value}:(Instr.checkKey b (n+1) T v).run P w = .ok () w:=by
 rcases Bq h with⟨k,hk,_⟩|⟨hk,_⟩
 ·simp[Instr.checkKey,run_underlying hk]
 ·simp[Instr.checkKey,run_underlying hk]
theorem AOP{w:World}(b:Bool)(d:Nat)(xs:Array Value):∀ (fs:List Field) (i:Nat),DX P fs i=true→i+fs.length≤xs.size →
  (forIn fs PUnit.unit fun (f : Field) (_ : PUnit) => ((if f.name ≠ "_" then (part f.type xs f.offset >>= fun v => Instr.checkKey b (d + 1) f.type v >>= fun _ => pure (ForInStep.yield PUnit.unit)) else pure (ForInStep.yield PUnit.unit)) : Sem (ForInStep PUnit))).run P w = .ok PUnit.unit w := by
 intro fs
 induction fs with
 |nil=>intro i _ _;simp[Sem.run_pure]
 |cons f fs ih=>
  intro i hok hl
  simp only[DX,ApU,bne_iff_ne,ApQ]at hok
  obtain⟨hn,ho,hsc,hok⟩:=hok
  rw[ApW]at hl
  have hag:D5 P f.type=some false:=by
   rcases Bq hsc with⟨k,hk,_⟩|⟨hk,_⟩<;>simp[D5,hk]
  have hlt:i<xs.size:=by omega
  have p1:(part f.type xs f.offset).run P w = .ok xs[i] w:=by
   rw[ho];simp[part,CQ hag,hlt]
  have h3:=ih (i+1) hok (by omega)
  simp only[List.forIn_cons,Sem.run_bind,hn,ne_eq,not_false_eq_true,Ap6,p1,Result.andThen_ok,AOO hsc,Sem.run_pure]
  exact h3
theorem AX2{kt:TypeId}{t:Ty}{n:List Bool}(hs:structEq P kt=some n)(hk:kinds? t=some n):AgP P kt t:=by
 obtain⟨fs,hu,hgt,hst,hok,hn⟩:=AGZ hs
 have hfo:P.fieldsOf kt=fs:=by simp[Program.fieldsOf,hu]
 have hrep:∀ (w:World) (F:Nat→Prop) (d:t.den) (v:Value),Bj w F t d v↔v=B2 t d:=by
  intro w F d v
  obtain⟨e1,e2⟩:=Jr hk d
  unfold Bj
  rw[ApZ e2,e1]
  constructor
  ·rintro⟨vs,rfl,h⟩
   have:=(Rw t hk d _).1 h
   rw[← this]
  ·rintro rfl
   exact⟨_,rfl,(Rw t hk d _).2 (by simp)⟩
 have hlen:∀ d:t.den,(Cp t d).length=fs.size:=by
  intro d
  rw[Pt t hk d,hn,Apr,Apl]
 refine⟨hrep,fun w b d => ?_,fun w d => ?_,fun w F b key es ms h => ?_⟩
 ·rw[(Jr hk d).1]
  have:=fun m=>AOP (P:=P) (w:=w) b m (Cp t d).toArray fs.toList 0 hok (by rw[Aqg,hlen,Apl];omega)
  have gen:∀ m,(Instr.checkKey b (m+1+1) kt (.agg (Cp t d).toArray)).run P w = .ok () w:=by
   intro m
   rw[Instr.checkKey]
   simp only[Sem.run_bind,run_underlying hu,Result.andThen_ok]
   rw[← Array.forIn_toList,this m]
   rfl
  exact gen 9998
 ·rw[(Jr hk d).1]
  have gen:∀ m,Instr.sameBits (m+1) (.agg (Cp t d).toArray) (.agg (Cp t d).toArray)=true:=by
   intro m
   have hz:∀ l:List Value,(∀ v∈l,(∃ k i,v = .int k i)∨∃ b,v = .bool b)→((l.zip l).all fun p=>Instr.sameBits m p.1 p.2)=true:=by
    intro l
    induction l with
    |nil=>intro _;rfl
    |cons v l ih=>
     intro h
     rw[List.zip_cons_cons,List.all_cons,ih (fun x hx=>h x (by simp[hx]))]
     rcases h v (by simp)with⟨k,i,rfl⟩|⟨b,rfl⟩
     ·cases m<;>simp[Instr.sameBits]
     ·cases m<;>simp[Instr.sameBits]
   simp only[Instr.sameBits,beq_self_eq_true,Bool.true_and]
   exact hz _ (Ps t hk d)
  unfold Instr.keyThatStays
  rw[gen 9999]
  rfl
 ·have heq:∀ d d':t.den,(Op.equal kt (B2 t d) (B2 t d')).run P w = .ok (@decide (d=d') (decDen t d d')) w:=by
   intro d d'
   rw[(Jr hk d).1,(Jr hk d').1]
   unfold Op.equal Op.maxDepth
   rw[run_equalIn_agg w 9999 kt _ _ (by rw[hfo];exact hu) hst,hfo]
   have r:∀ x:t.den,Ag w F (fun _=>none) [] (BH t x) ((Cp t x).toArray.toList.drop 0):=fun x=>Hs t ((Rw t hk x _).2 (by simp))
   exact Rm 9998 _ _ fs.toList 0 (BH t d) (BH t d') _ hok (r d) (r d') (by rw[← hn];exact Vp t hk d d')
  have gen:∀ (es:List (t.den×b.den)) (ms:List MapEntry) (i:Nat),IK w F t b es ms →
    (Dw es key=none∧AS es key=none∧(Instr.findAsking kt (B2 t key) ms i).run P w = .ok none w) ∨
    (∃ x n me,Dw es key=some n∧AS es key=some x∧(Instr.findAsking kt (B2 t key) ms i).run P w = .ok (some (i+n,me.val)) w∧ms[n]? = some me∧Bj w F b x me.val∧me.key=B2 t key):=by
   intro es
   induction es with
   |nil=>rintro ms i rfl;exact .inl ⟨rfl,rfl,by simp[Instr.findAsking]⟩
   |cons e es ih=>
    rintro ms i ⟨me,ms',rfl,⟨h1,h2⟩,h3⟩
    obtain⟨a,x⟩:=e
    have hkk:=(hrep w F a _).1 h1
    simp only at h2
    have hq:=heq key a
    by_cases hak:a=key
    ·subst hak
     rw[ApM rfl]at hq
     refine .inr ⟨x,0,me,by simp[Dw],by simp[AS],?_,rfl,h2,hkk⟩
     simp[Instr.findAsking,hkk,hq]
    ·rw[ApL (fun h=>hak h.symm)]at hq
     have hfn:(Instr.findAsking kt (B2 t key) (me::ms') i).run P w=(Instr.findAsking kt (B2 t key) ms' (i+1)).run P w:=by
      simp[Instr.findAsking,hkk,hq]
     rcases ih ms' (i+1) h3 with⟨q0,q1,q2⟩|⟨y,n,me',q0,q1,q2,q3,q4,q5⟩
     ·exact .inl ⟨by simp[Dw,hak,q0],by simp[AS,hak,q1],by rw[hfn];exact q2⟩
     ·exact .inr ⟨y,n+1,me',by simp[Dw,hak,q0],by simp[AS,hak,q1],by rw[hfn,q2,show i+1+n=i+(n+1)from by omega],by simpa using q3,q4,q5⟩
  have hfk:∀ r,(Instr.findAsking kt (B2 t key) ms).run P w = .ok r w→(ms=[]→r=none)→(Instr.findKey kt (B2 t key) ms).run P w = .ok r w:=by
   intro r hr' hnil
   cases ms with
   |nil=>simp[Instr.findKey,run_underlying hu,Instr.findNow,hnil rfl]
   |cons me ms=>
    simp only[Instr.findKey,Sem.run_bind,run_underlying hu,Result.andThen_ok,Instr.findNow,Instr.sameNow]
    exact hr'
  rcases gen es ms 0 h with⟨q0,q1,q2⟩|⟨x,n,me,q0,q1,q2,q3,q4,q5⟩
  ·exact .inl ⟨q0,q1,hfk _ q2 (fun _=>rfl)⟩
  ·rw[Aqe]at q2
   exact .inr ⟨x,n,me,q0,q1,hfk _ q2 (fun e=>by subst e;simp at q3),q3,q4,q5⟩
theorem AG0{T:TypeId}{t:Ty}(h:RJ P T=some t):∃ e k,P.underlying T=some (.array 2 e)∧P.underlying e=some (.int k)∧BI P e=some 1∧t = .prod (.int k) (.prod (.int k) .unit):=by
 unfold RJ at h
 split at h
 ·rename_i n e hu
  split at h
  ·rename_i k hn he hs
   rw[ApQ]at hn hs
   subst hn
   cases h
   exact⟨e,k,hu,he,hs,rfl⟩
  ·cases h
 ·cases h
theorem AjJ{kt:TypeId}{t:Ty}(hp:RJ P kt=some t):AgP P kt t:=by
 obtain⟨e,j,hu,he,hs,rfl⟩:=AG0 hp
 obtain⟨i0,hi0,hi1⟩:=BK hs
 have hk:kinds? (.prod (.int j) (.prod (.int j) .unit))=some [true,true]:=rfl
 have hag:D5 P e=some false:=by simp[D5,he]
 have hsz:∀ w,(sizeOf e).run P w = .ok 1 w:=fun w=>by rw[run_sizeOf hi0,hi1]
 have hkv:∀ d:(Ty.prod (.int j) (.prod (.int j) .unit)).den,B2 (.prod (.int j) (.prod (.int j) .unit)) d = .agg #[.int j d.1,.int j d.2.1]:=fun d=>rfl
 have hrep:∀ (w:World) (F:Nat→Prop) (d:(Ty.prod (.int j) (.prod (.int j) .unit)).den) (v:Value),Bj w F (.prod (.int j) (.prod (.int j) .unit)) d v↔v=B2 (.prod (.int j) (.prod (.int j) .unit)) d:=by
  intro w F d v
  obtain⟨e1,e2⟩:=Jr hk d
  unfold Bj
  rw[ApZ e2,e1]
  constructor
  ·rintro⟨vs,rfl,h⟩
   have:=(Rw _ hk d _).1 h
   rw[← this]
  ·rintro rfl
   exact⟨_,rfl,(Rw _ hk d _).2 (by simp)⟩
 have hpart:∀ (w:World) (a b:Value),(part e #[a,b] 0).run P w = .ok a w∧(part e #[a,b] 1).run P w = .ok b w:=fun w a b=>by
  constructor<;>simp[part,CQ hag]
 have hck1:∀ (w:World) (b:Bool) (n:Nat) (d:Int),(Instr.checkKey b (n+1) e (.int j d)).run P w = .ok () w:=fun w b n d=>by simp[Instr.checkKey,run_underlying he]
 refine⟨hrep,fun w b d => ?_,fun w d => ?_,fun w F b key es ms h => ?_⟩
 ·rw[hkv]
  have gen:∀ m,(Instr.checkKey b (m+1+1) kt (.agg #[.int j d.1,.int j d.2.1])).run P w = .ok () w:=by
   intro m
   rw[Instr.checkKey]
   simp only[Sem.run_bind,run_underlying hu,Result.andThen_ok]
   simp[Std.Legacy.Range.forIn_eq_forIn_range',Std.Legacy.Range.size,List.range',hsz,(hpart w _ _).1,(hpart w _ _).2,hck1]
  exact gen 9998
 ·rw[hkv]
  have gen:∀ m,Instr.sameBits (m+1) (.agg #[.int j d.1,.int j d.2.1]) (.agg #[.int j d.1,.int j d.2.1])=true:=by
   intro m
   cases m<;>simp[Instr.sameBits]
  unfold Instr.keyThatStays
  rw[gen 9999]
  rfl
 ·have heq:∀ d d':(Ty.prod (.int j) (.prod (.int j) .unit)).den,(Op.equal kt (B2 (.prod (.int j) (.prod (.int j) .unit)) d) (B2 (.prod (.int j) (.prod (.int j) .unit)) d')).run P w = .ok (@decide (d=d') (decDen (.prod (.int j) (.prod (.int j) .unit)) d d')) w:=by
   intro d d'
   rw[hkv,hkv]
   have hone:∀ (n:Nat) (a b:Int),(Op.equalIn (n+1) e (.int j a) (.int j b)).run P w = .ok (a==b) w:=fun n a b=>by simp[Op.equalIn,run_underlying he]
   have gen:∀ n,(Op.equalIn (n+1+1) kt (.agg #[.int j d.1,.int j d.2.1]) (.agg #[.int j d'.1,.int j d'.2.1])).run P w = .ok ((d.1==d'.1)&&(d.2.1==d'.2.1)) w:=by
    intro n
    rw[Op.equalIn]
    simp only[Sem.run_bind,run_underlying hu,Result.andThen_ok,hsz]
    simp only[Std.Legacy.Range.forIn_eq_forIn_range',Std.Legacy.Range.size,List.range',Ara,Aq4]
    by_cases h1:d.1=d'.1
    ·by_cases h2:d.2.1=d'.2.1<;>simp[hone,(hpart w _ _).1,(hpart w _ _).2,h1,h2]
    ·simp[hone,(hpart w _ _).1,(hpart w _ _).2,h1]
   unfold Op.equal
   have:=gen 9998
   rw[show Op.maxDepth=9998+1+1 from rfl,this]
   congr 1
   rw[Aqo,ApU,ArE,ArE]
   rw[Aqw]
   obtain⟨a,b,⟨⟩⟩:=d
   obtain⟨a',b',⟨⟩⟩:=d'
   constructor
   ·rintro⟨h1,h2⟩
    have h1:a=a':=h1
    have h2:b=b':=h2
    rw[h1,h2]
   ·intro h
    cases h
    exact⟨rfl,rfl⟩
  have gen:∀ (es:List ((Ty.prod (.int j) (.prod (.int j) .unit)).den×b.den)) (ms:List MapEntry) (i:Nat),IK w F (.prod (.int j) (.prod (.int j) .unit)) b es ms →
    (@Dw _ _ (decDen _) es key=none∧@AS _ _ (decDen _) es key=none∧(Instr.findAsking kt (B2 (.prod (.int j) (.prod (.int j) .unit)) key) ms i).run P w = .ok none w) ∨
    (∃ x n me,@Dw _ _ (decDen _) es key=some n∧@AS _ _ (decDen _) es key=some x∧(Instr.findAsking kt (B2 (.prod (.int j) (.prod (.int j) .unit)) key) ms i).run P w = .ok (some (i+n,me.val)) w∧ms[n]? = some me∧Bj w F b x me.val∧me.key=B2 (.prod (.int j) (.prod (.int j) .unit)) key):=by
   intro es
   induction es with
   |nil=>rintro ms i rfl;exact .inl ⟨rfl,rfl,by simp[Instr.findAsking]⟩
   |cons e' es ih=>
    rintro ms i ⟨me,ms',rfl,⟨h1,h2⟩,h3⟩
    obtain⟨a,x⟩:=e'
    have hkk:=(hrep w F a _).1 h1
    simp only at h2
    have hq:=heq key a
    by_cases hak:a=key
    ·subst hak
     rw[ApM rfl]at hq
     refine .inr ⟨x,0,me,by simp[Dw],by simp[AS],?_,rfl,h2,hkk⟩
     simp[Instr.findAsking,hkk,hq]
    ·rw[ApL (fun h=>hak h.symm)]at hq
     have hfn:(Instr.findAsking kt (B2 (.prod (.int j) (.prod (.int j) .unit)) key) (me::ms') i).run P w=(Instr.findAsking kt (B2 (.prod (.int j) (.prod (.int j) .unit)) key) ms' (i+1)).run P w:=by
      simp[Instr.findAsking,hkk,hq]
     rcases ih ms' (i+1) h3 with⟨q0,q1,q2⟩|⟨y,n,me',q0,q1,q2,q3,q4,q5⟩
     ·exact .inl ⟨by simp[Dw,hak,q0],by simp[AS,hak,q1],by rw[hfn];exact q2⟩
     ·exact .inr ⟨y,n+1,me',by simp[Dw,hak,q0],by simp[AS,hak,q1],by rw[hfn,q2,show i+1+n=i+(n+1)from by omega],by simpa using q3,q4,q5⟩
  have hfk:∀ r,(Instr.findAsking kt (B2 (.prod (.int j) (.prod (.int j) .unit)) key) ms).run P w = .ok r w→(ms=[]→r=none)→(Instr.findKey kt (B2 (.prod (.int j) (.prod (.int j) .unit)) key) ms).run P w = .ok r w:=by
   intro r hr' hnil
   cases ms with
   |nil=>simp[Instr.findKey,run_underlying hu,Instr.findNow,hnil rfl]
   |cons me ms=>
    simp only[Instr.findKey,Sem.run_bind,run_underlying hu,Result.andThen_ok,Instr.findNow,Instr.sameNow]
    exact hr'
  rcases gen es ms 0 h with⟨q0,q1,q2⟩|⟨x,n,me,q0,q1,q2,q3,q4,q5⟩
  ·exact .inl ⟨q0,q1,hfk _ q2 (fun _=>rfl)⟩
  ·rw[Aqe]at q2
   exact .inr ⟨x,n,me,q0,q1,hfk _ q2 (fun e=>by subst e;simp at q3),q3,q4,q5⟩
theorem RO{kt:TypeId}{t:Ty}(h:X1 P kt=some t):AgP P kt t:=by
 unfold X1 at h
 split at h
 ·rename_i t' hi
  cases h
  unfold AjM at hi
  split at hi
  ·rename_i k hu
   cases hi
   exact AmX hu
  ·cases hi
 ·split at h
  ·rename_i n t' hs ht
   split at h
   ·rename_i hd
    cases h
    exact AX2 hs (Are hd)
   ·cases h
  ·exact AjJ h
end
end Go.Pev
end
section
namespace Go.Pev
open Go.RowKit
section
variable {P:Program} {E:Env}
theorem AZf(hE:∀ g,AO P g (E.spec g))(f:Operand)(args:Array Operand)(ts:Array TypeId):Claim P E (.call { callee:=.value f,args:=args,argTypes:=ts }):=by
 intro R ty ρ H fz slot k r h
 simp only[evalOp]at h
 split at h
 ·rename_i g caps hf
  obtain⟨v,e,h1,h2,h3,h4⟩:=hE g R _ H fz slot k r h
  refine⟨v,e,h1,fun R' k'=>by simp only[evalOp,hf];exact h2 R' k',?_⟩
  intro w F m a o next Q hop hty hi hr hn
  have hrf:=hr f
  rw[hf]at hrf
  unfold Rep at hrf
  obtain⟨cs,e1,e2⟩:=hrf
  have hargs:Ag w F m H (args.toList.map ρ++caps) ((args.map a.eval++cs).toList):=by
   rw[ArM,Aqq]
   exact Gn (DI (by simp) fun i c v hc hv=>by
    rw[Ap0]at hc hv
    cases hx:args.toList[i]? with
    |none=>rw[hx]at hc;cases hc
    |some x=>
     rw[hx]at hc hv
     cases hc;cases hv
     exact hr x) e2
  have hcall:=h4 w F m _ hi hargs
  rw[ArG]at hcall
  unfold Oper.wp
  have hrun:(execOp a.eval o).run P w = .ok (.enter g (args.map a.eval++cs)) w:=by
   simp[execOp,hop,resolve,e1,Deferred.ofValue,invoke,h3 _ w]
  rw[hrun]
  exact hcall.mono fun en w' ⟨u,hen,F',m',hg,hrep⟩=>by
   subst hen
   exact hn u w' F' m' hg hrep
 ·rename_i g caps hf
  obtain⟨v,e,h1,h2,h3,h4⟩:=hE g R _ H fz slot k r h
  refine⟨v,e,h1,fun R' k'=>by simp only[evalOp,hf];exact h2 R' k',?_⟩
  intro w F m a o next Q hop hty hi hr hn
  have hrf:=hr f
  rw[hf]at hrf
  unfold Rep at hrf
  obtain⟨cs,e1,e2⟩:=hrf
  have hargs:Ag w F m H (caps++args.toList.map ρ) ((cs++args.map a.eval).toList):=by
   rw[ArM,Aqq]
   exact Gn e2 (DI (by simp) fun i c v hc hv=>by
    rw[Ap0]at hc hv
    cases hx:args.toList[i]? with
    |none=>rw[hx]at hc;cases hc
    |some x=>
     rw[hx]at hc hv
     cases hc;cases hv
     exact hr x)
  have hcall:=h4 w F m _ hi hargs
  rw[ArG]at hcall
  unfold Oper.wp
  have hrun:(execOp a.eval o).run P w = .ok (.enter g (cs++args.map a.eval)) w:=by
   simp[execOp,hop,resolve,e1,Deferred.ofValue,invoke,h3 _ w]
  rw[hrun]
  exact hcall.mono fun en w' ⟨u,hen,F',m',hg,hrep⟩=>by
   subst hen
   exact hn u w' F' m' hg hrep
 ·cases h
theorem AVW{T:TypeId}(h:AaS P T=true):P.underlying T=some .string:=by
 unfold AaS at h
 split at h
 ·assumption
 ·cases h
theorem AOS{T:TypeId}(h:Zm P T=true):∃ e,P.underlying T=some (.slice e)∧P.underlying e=some (.int .u8):=by
 unfold Zm at h
 split at h
 ·rename_i e hu
  split at h
  ·rename_i hu';exact⟨e,hu,hu'⟩
  ·cases h
 ·cases h
theorem AV6{w:World}{F:Nat→Prop}:∀ {xs:List Int} {row:List Value},rows (Dat w F (.int .u8)) xs row→row=xs.map (Value.int .u8):=by
 intro xs
 induction xs with
 |nil=>rintro row rfl;rfl
 |cons x xs ih=>
  rintro row ⟨c1,c2,rfl,h1,h2⟩
  rw[ih h2]
  have h1:c1=[.int .u8 x]:=by simpa [Dat]using h1
  rw[h1];rfl
theorem AWa:∀ (xs:List Int) (s:ByteArray),bytesOf (xs.foldl (fun r n=>r.push (UInt8.ofNat n.toNat)) s)=bytesOf s++AEm xs:=by
 intro xs
 induction xs with
 |nil=>intro s;simp[AEm]
 |cons x xs ih=>
  intro s
  rw[AqT,ih]
  simp[bytesOf,AEm,ByteArray.push]
theorem AkY{S T:TypeId}{x:Operand}{w:World}{F:Nat→Prop}{m:Mp}{H:List Ob}{fz:List Bool}{v:AV}{xs:List Int}{fr:List Nat}{ρc:Operand→Value}{o:Oper}(hop:o.op = .convert S T x)
  (hs:Zm P S=true) (hd:AaS P T=true) (hi:HI w F m H fz) (hx:FE H (.slice (.int .u8)) v=some (xs,fr)) (hr:Rep w F m H v (ρc x)) :
  ∃ u,(execOp ρc o).run P w = .ok (.value u) w∧Rep w F m H (.str (AEm xs)) u:=by
 obtain⟨e,h1,h2⟩:=AOS hs
 have h3:=AVW hd
 obtain⟨a,cap,e1,hle,hne,news,hrows,hcell⟩:=EY hi hx hr
 cases a with
 |none=>
  have hxs:xs=[]:=by
   cases xs with
   |nil=>rfl
   |cons a b=>exact absurd (hne (by simp)) (by simp)
  subst hxs
  refine⟨.string ByteArray.empty,?_,?_⟩
  ·simp[execOp,hop,e1,run_convert_bytes_string w S T e none _ _ h1 h2 h3,Conv.bytesToString]
  ·unfold Rep;exact⟨_,rfl,rfl⟩
 |some ad=>
  have hn:=AV6 hrows
  subst hn
  have hl:(Go.loadCells ad xs.length).run P w = .ok (xs.map (Value.int .u8)).toArray w:=by
   have:=run_loadCells_list (P:=P) w ad (xs.map (Value.int .u8)) (fun j v hj=>hcell ad rfl j v hj)
   simpa using this
  refine⟨.string (xs.foldl (fun r n=>r.push (UInt8.ofNat n.toNat)) ByteArray.empty),?_,?_⟩
  ·simp[execOp,hop,e1,run_convert_bytes_string w S T e (some ad) _ _ h1 h2 h3,run_bytesToString w ad _ cap xs hl]
  ·unfold Rep;exact⟨_,rfl,(AWa _ _).trans (Ap9 _)⟩
theorem AHd(S T:TypeId)(x:Operand):Claim P E (.convert S T x):=by
 intro R ty ρ H fz slot k r h
 simp only[evalOp]at h
 split at h
 ·rename_i j' n j hx hs hk
  refine⟨_,_,h,fun R' k'=>by simp only[evalOp,hx,hs,hk],Ac fun w F m ρc o hop hty hi hr=>⟨.int j (j.wrap n),?_,Ax _ _⟩⟩
  have e1:=BD (hx▸hr x)
  obtain⟨d,hd⟩:=Aq3.1 hs
  simp[execOp,hop,e1,convert,run_underlying hd,run_underlying (X0 hk),Conv.intToInt]
 ·rename_i v b1 b2 hne
  split at h
  ·rename_i hs hd
   split at h
   ·rename_i xs fr hx
    refine⟨_,_,h,fun R' k' => ?_,Ac fun w F m ρc o hop hty hi hr=>AkY hop hs hd hi hx (hr x)⟩
    simp only[evalOp]
    simp only[hs,hd,hx]
   ·cases h
  ·cases h
theorem Ahn{w:World}{F:Nat→Prop}{k:IntKind}{n:Int}{v:Value}(h:Bj w F (.int k) n v):v = .int k n:=by
 unfold Bj at h
 have h:Dat w F (.int k) n [v]:=h
 simpa [Dat]using h
theorem Cu{w:World}{r:Nat}{ms:Array MapEntry}{clock:Nat}(h:w.heap[r]? = some (.map ms clock)):(getObj r).run P w = .ok (.map ms clock) w:=by
 simp[getObj,Sem.run,h]
theorem AOG(T:TypeId)(mm x:Operand)(ok:Bool):Claim P E (.lookup T mm x ok):=by
 intro R ty ρ H fz slot k r h
 simp only[evalOp]at h
 split at h
 ·rename_i kt vt id hu hm
  split at h
  ·rename_i ka b es ho
   split at h
   ·rename_i b' cs' hkt hz
    split at h
    ·rename_i key fr hb hx
     simp only[ApQ]at hb
     subst hb
     have hkt':=hkt
     simp only[ApQ]at hkt'
     have hK:=RO hkt'
     obtain⟨hty',hcs',i,z,hi0,hz0,hok,hsz,hza⟩:=B9 hz
     subst hcs'
     have main:∀ (w:World) (F:Nat→Prop) (m:Mp) (ρc:Operand→Value) (o:Oper),o.op = .lookup T mm x ok→HI w F m H fz→(∀ x,Rep w F m H (ρ x) (ρc x)) →
       ∃ u,(execOp ρc o).run P w = .ok (.value (if ok then .tuple #[u,.bool (AS (α:=ka.den) es key).isSome]else u)) w∧Bj w F b' ((AS (α:=ka.den) es key).getD b'.zero) u:=by
      intro w F m ρc o hop hi hr
      have hrm:=hr mm
      rw[hm]at hrm
      unfold Rep at hrm
      rw[ho]at hrm
      obtain⟨bb,c,e1,e2⟩:=hrm
      obtain⟨b2,c',ms,clock,e3,e4,e5,_⟩:=hi.obj id _ ho
      rw[e1]at e3;cases e3
      have hkv:ρc x=B2 ka key:=(hK.rep _ _ _ _).1 (FD hi hx (hr x))
      have hck:=hK.check w ms.isEmpty key
      rcases hK.find w F _ key es ms.toList e5 with⟨_,q1,q2⟩|⟨y,n,me,_,q1,q2,q3,q4,_⟩
      ·refine⟨z,?_,by rw[q1];exact TD hok hza⟩
       rw[q1]
       simp only[execOp,hop,e2,hkv,Instr.lookup,Sem.run_bind,run_underlying hu,Result.andThen_ok,Cu e4,hck,q2,Bn hi0 hz0,Sem.run_pure]
       cases ok<;>rfl
      ·refine⟨me.val,?_,by rw[q1];exact q4⟩
       rw[q1]
       simp only[execOp,hop,e2,hkv,Instr.lookup,Sem.run_bind,run_underlying hu,Result.andThen_ok,Cu e4,hck,q2,Sem.run_pure]
       cases ok<;>rfl
     split at h
     ·refine⟨_,_,h,fun R' k'=>by simp only[evalOp,hu,hm,ho,hkt,hz,Apn,hx],Ac fun w F m ρc o hop hty hi hr => ?_⟩
      obtain⟨u,h1,h2⟩:=main w F m ρc o hop hi hr
      refine⟨_,h1,?_⟩
      unfold Rep
      refine⟨_,rfl,?_⟩
      unfold Ag
      refine⟨u,_,rfl,by unfold Rep;exact h2,AFo (BY _)⟩
     ·refine⟨_,_,h,fun R' k'=>by simp only[evalOp,hu,hm,ho,hkt,hz,Apn,hx],Ac fun w F m ρc o hop hty hi hr => ?_⟩
      obtain⟨u,h1,h2⟩:=main w F m ρc o hop hi hr
      exact⟨u,h1,by unfold Rep;exact h2⟩
    ·cases h
   ·cases h
  ·cases h
 ·cases h
theorem EJ{w:World}{r:Nat}{ms ms':Array MapEntry}{clock clock':Nat}(h:w.heap[r]? = some (.map ms clock)):
  (setObj r (.map ms' clock')).run P w = .ok () { w with heap:=w.heap.setIfInBounds r (.map ms' clock') }:=by
 simp[setObj,Sem.run,h]
theorem H0.push{ms:Array MapEntry}{clock:Nat}(h:H0 ms clock)(key val:Value):H0 (ms.push { key:=key,val:=val,born:=clock }) (clock+1):=by
 obtain⟨h1,h2⟩:=h
 refine⟨by rw[Array.size_push,h1],fun i e he => ?_⟩
 rw[Array.getElem?_push]at he
 split at he
 ·cases he
  show clock=_
  omega
 ·exact h2 i e he
theorem H0.modify{ms:Array MapEntry}{clock:Nat}(h:H0 ms clock)(n:Nat){f:MapEntry→MapEntry}(hf:∀ e,(f e).born=e.born):H0 (ms.modify n f) clock:=by
 obtain⟨h1,h2⟩:=h
 refine⟨by rw[Array.size_modify,h1],fun i e he => ?_⟩
 rw[Array.getElem?_modify]at he
 split at he
 ·rw[Ape]at he
  obtain⟨e',he',rfl⟩:=he
  rw[hf];exact h2 i e' he'
 ·exact h2 i e he
theorem ZA(T:TypeId)(mm x y:Operand):Claim P E (.mapUpdate T mm x y):=by
 intro R ty ρ H fz slot k r h
 simp only[evalOp]at h
 split at h
 ·rename_i kt vt id hu hm
  split at h
  ·rename_i ka b es ho
   split at h
   ·rename_i key fr0 val fr hkt hx hy
    refine⟨_,_,h,fun R' k'=>by simp only[evalOp,hu,hm,ho,hkt,hx,hy],Fv fun w F m ρc o hop hty hi hr => ?_⟩
    have hkt':=hkt
    simp only[ApQ]at hkt'
    have hK:=RO hkt'
    have hgf:=Av.freeze hi fr
    have hrm:=hr mm
    rw[hm]at hrm
    unfold Rep at hrm
    rw[ho]at hrm
    obtain⟨bb,c,e1,e2⟩:=hrm
    obtain⟨b2,c',ms,clock,e3,e4,e5,e6⟩:=hgf.2.obj id _ ho
    rw[e1]at e3;cases e3
    have hkv:ρc x=B2 ka key:=(hK.rep _ _ _ _).1 (FD hi hx (hr x))
    have hvd:=FD hi hy (hr y)
    have hck:=hK.check w false key
    have hst:=hK.stays w key
    have hlt:=BQ e4
    have main:∀ (ms':Array MapEntry) (clock':Nat),IK w (Dx F m H fr) ka b (Ae (α:=ka.den) es key val) ms'.toList→H0 ms' clock' →
      Av w (Dx F m H fr) m H (Al fr fz) { w with heap:=w.heap.setIfInBounds bb (.map ms' clock') } (Dx F m H fr) m (H.set id (.map ka b (Ae (α:=ka.den) es key val))) (Al fr fz):=by
     intro ms' clock' he hbo
     refine Av.set hgf.2 (Eg ho) e1 ho trivial rfl rfl rfl (by simp) (fun k hk=>by simp[AqH hk]) fun _ => ?_
     refine⟨bb,c,ms',clock',e1,by simp[hlt],?_,hbo⟩
     refine he.mono (fun a ha => ?_) (fun _ h=>h)
     have:a.block≠bb:=by rintro rfl;exact hgf.2.off id _ c (Eg ho) e1 ha
     simp[World.cell?,AqH this]
    obtain⟨s1,s2⟩:=hK.store key val _ hvd e5
    rcases hK.find w _ _ key es ms.toList e5 with⟨q1,_,q2⟩|⟨y',n,me,q1,_,q2,q3,q4,q5⟩
    ·have hg:=main (ms.push { key:=B2 ka key,val:=ρc y,born:=clock }) (clock+1) (by rw[Array.toList_push];exact s1 clock q1) (e6.push _ _)
     refine⟨_,_,m,?_,hgf.trans hg⟩
     simp only[execOp,hop,e2,hkv,Instr.mapUpdate,Sem.run_bind,run_underlying hu,Result.andThen_ok,Cu e4,hck,q2,EJ e4,Sem.run_pure]
    ·have hg:=main (ms.modify n fun e=>{ e with key:=B2 ka key,val:=ρc y }) clock (by rw[AsP];exact s2 n q1) (e6.modify _ fun _=>rfl)
     refine⟨_,_,m,?_,hgf.trans hg⟩
     have hgetn:ms[n]? = some me:=by simpa using q3
     have hold:(((ms[n]?).map (·.key)).getD (B2 ka key))=B2 ka key:=by rw[hgetn];exact q5
     simp only[execOp,hop,e2,hkv,Instr.mapUpdate,Sem.run_bind,run_underlying hu,Result.andThen_ok,Cu e4,hck,q2,hold,hst,EJ e4,Sem.run_pure]
   ·cases h
  ·cases h
 ·cases h
theorem AOH(T:TypeId)(mm x y:Operand):Claim P E (.insert T mm x y):=by
 intro R ty ρ H fz slot k r h
 simp only[evalOp]at h
 split at h
 ·rename_i kt vt id hu hm
  split at h
  ·rename_i ka b es ho
   split at h
   ·rename_i key fr0 val fr hkt hx hy
    refine⟨_,_,h,fun R' k'=>by simp only[evalOp,hu,hm,ho,hkt,hx,hy],Fv fun w F m ρc o hop hty hi hr => ?_⟩
    have hkt':=hkt
    simp only[ApQ]at hkt'
    have hK:=RO hkt'
    have hgf:=Av.freeze hi fr
    have hrm:=hr mm
    rw[hm]at hrm
    unfold Rep at hrm
    rw[ho]at hrm
    obtain⟨bb,c,e1,e2⟩:=hrm
    obtain⟨b2,c',ms,clock,e3,e4,e5,e6⟩:=hgf.2.obj id _ ho
    rw[e1]at e3;cases e3
    have hkv:ρc x=B2 ka key:=(hK.rep _ _ _ _).1 (FD hi hx (hr x))
    have hvd:=FD hi hy (hr y)
    have hck:=hK.check w false key
    have hst:=hK.stays w key
    have hlt:=BQ e4
    have main:∀ (ms':Array MapEntry) (clock':Nat),IK w (Dx F m H fr) ka b (Ae (α:=ka.den) es key val) ms'.toList→H0 ms' clock' →
      Av w (Dx F m H fr) m H (Al fr fz) { w with heap:=w.heap.setIfInBounds bb (.map ms' clock') } (Dx F m H fr) m (H.set id (.map ka b (Ae (α:=ka.den) es key val))) (Al fr fz):=by
     intro ms' clock' he hbo
     refine Av.set hgf.2 (Eg ho) e1 ho trivial rfl rfl rfl (by simp) (fun k hk=>by simp[AqH hk]) fun _ => ?_
     refine⟨bb,c,ms',clock',e1,by simp[hlt],?_,hbo⟩
     refine he.mono (fun a ha => ?_) (fun _ h=>h)
     have:a.block≠bb:=by rintro rfl;exact hgf.2.off id _ c (Eg ho) e1 ha
     simp[World.cell?,AqH this]
    obtain⟨s1,s2⟩:=hK.store key val _ hvd e5
    rcases hK.find w _ _ key es ms.toList e5 with⟨q1,_,q2⟩|⟨y',n,me,q1,_,q2,q3,q4,q5⟩
    ·have hg:=main (ms.push { key:=B2 ka key,val:=ρc y,born:=clock }) (clock+1) (by rw[Array.toList_push];exact s1 clock q1) (e6.push _ _)
     refine⟨_,_,m,?_,hgf.trans hg⟩
     simp only[execOp,hop,e2,hkv,Instr.mapUpdate,Sem.run_bind,run_underlying hu,Result.andThen_ok,Cu e4,hck,q2,EJ e4,Sem.run_pure]
    ·have hg:=main (ms.modify n fun e=>{ e with key:=B2 ka key,val:=ρc y }) clock (by rw[AsP];exact s2 n q1) (e6.modify _ fun _=>rfl)
     refine⟨_,_,m,?_,hgf.trans hg⟩
     have hgetn:ms[n]? = some me:=by simpa using q3
     have hold:(((ms[n]?).map (·.key)).getD (B2 ka key))=B2 ka key:=by rw[hgetn];exact q5
     simp only[execOp,hop,e2,hkv,Instr.mapUpdate,Sem.run_bind,run_underlying hu,Result.andThen_ok,Cu e4,hck,q2,hold,hst,EJ e4,Sem.run_pure]
   ·cases h
  ·cases h
 ·cases h
theorem AMT{ms:Array MapEntry}{n:Nat}{me:MapEntry}(h:ms[n]? = some me){f g:MapEntry→MapEntry}(he:f me=g me):ms.modify n f=ms.modify n g:=by
 apply Array.ext_getElem?
 intro i
 rw[Array.getElem?_modify,Array.getElem?_modify]
 split
 ·rename_i hi
  subst hi
  rw[h,Ari,Ari,he]
 ·rfl
theorem AE7(T:TypeId)(mm x:Operand):Claim P E (.mapEntry T mm x):=by
 intro R ty ρ H fz slot k r h
 simp only[evalOp]at h
 split at h
 ·rename_i kt vt id hu hm
  split at h
  ·rename_i ka b es ho
   split at h
   ·rename_i b' cs' key fr hkt hz hx
    split at h
    ·rename_i hb
     simp only[ApQ]at hb
     subst hb
     refine⟨_,_,h,fun R' k'=>by simp only[evalOp,hu,hm,ho,hkt,hz,hx,Apn],A9 fun w F m ρc o hop hty hi hr => ?_⟩
     have hkt':=hkt
     simp only[ApQ]at hkt'
     have hK:=RO hkt'
     obtain⟨hty',hcs',i,z,hi0,hz0,hok,hsz,hza⟩:=B9 hz
     subst hcs'
     have hrm:=hr mm
     rw[hm]at hrm
     unfold Rep at hrm
     rw[ho]at hrm
     obtain⟨bb,c,e1,e2⟩:=hrm
     obtain⟨b2,c',ms,clock,e3,e4,e5,e6⟩:=hi.obj id _ ho
     rw[e1]at e3;cases e3
     have hkv:ρc x=B2 ka key:=(hK.rep _ _ _ _).1 (FD hi hx (hr x))
     have hck:=hK.check w false key
     have hst:=hK.stays w key
     have hlt:=BQ e4
     have main:∀ (val:b'.den) (ms':Array MapEntry) (clock':Nat),IK w F ka b' (Ae (α:=ka.den) es key val) ms'.toList→H0 ms' clock' →
       Av w F m H fz { w with heap:=w.heap.setIfInBounds bb (.map ms' clock') } F m (H.set id (.map ka b' (Ae (α:=ka.den) es key val))) fz:=by
      intro val ms' clock' he hbo
      refine Av.set hi (Eg ho) e1 ho trivial rfl rfl rfl (by simp) (fun k hk=>by simp[AqH hk]) fun _ => ?_
      refine⟨bb,c,ms',clock',e1,by simp[hlt],?_,hbo⟩
      refine he.mono (fun a ha => ?_) (fun _ h=>h)
      have:a.block≠bb:=by rintro rfl;exact hi.off id _ c (Eg ho) e1 ha
      simp[World.cell?,AqH this]
     have tup:∀ (d:b'.den) (u:Value) (n:Nat),Bj w F b' d u→Rep w F m H (.tup [.data b' d,.data (.int .i64) (n:Int)]) (.tuple #[u,goInt (n:Int)]):=by
      intro d u n hd
      unfold Rep
      refine⟨_,rfl,?_⟩
      unfold Ag
      exact⟨u,_,rfl,by unfold Rep;exact hd,AFo (Ax _ _)⟩
     have hlen:=AEI e5
     rcases hK.find w _ _ key es ms.toList e5 with⟨q1,q0,q2⟩|⟨y',n,me,q1,q0,q2,q3,q4,q5⟩
     ·obtain⟨s1,_⟩:=hK.store key b'.zero z (TD hok hza) e5
      have hg:=main b'.zero (ms.push { key:=B2 ka key,val:=z,born:=clock }) (clock+1) (by rw[Array.toList_push];exact s1 clock q1) (e6.push _ _)
      have hp:Yp (α:=ka.den) es key=(clock:Int):=by
       unfold Yp
       rw[q1,e6.1]
       rw[Apl]at hlen
       rw[Option.getD_none,hlen]
      rw[q0,Option.getD_none,hp]
      refine⟨_,_,F,m,?_,hg,hg.1.rep hi (tup b'.zero z clock (TD hok hza))⟩
      simp only[execOp,hop,e2,hkv,Instr.mapEntry,Sem.run_bind,run_underlying hu,Result.andThen_ok,Cu e4,hck,q2,Bn hi0 hz0,EJ e4,Sem.run_pure]
     ·obtain⟨_,s2⟩:=hK.store key y' me.val q4 e5
      have hgetn:ms[n]? = some me:=by simpa using q3
      have hmod:(ms.modify n fun e=>{ e with key:=B2 ka key,val:=me.val })=ms.modify n fun e=>{ e with key:=B2 ka key }:=AMT hgetn rfl
      have hg:=main y' (ms.modify n fun e=>{ e with key:=B2 ka key,val:=me.val }) clock (by rw[AsP];exact s2 n q1) (e6.modify _ fun _=>rfl)
      rw[hmod]at hg
      have hp:Yp (α:=ka.den) es key=(n:Int):=by
       unfold Yp
       rw[q1,AqI]
      rw[q0,AqI,hp]
      have hold:(((ms[n]?).map (·.key)).getD (B2 ka key))=B2 ka key:=by rw[hgetn];exact q5
      have hbn:(((ms[n]?).map fun x=>(x.born:Int)).getD 0)=(n:Int):=by
       rw[hgetn]
       show(me.born:Int)=n
       rw[e6.2 n me hgetn]
      refine⟨_,_,F,m,?_,hg,hg.1.rep hi (tup y' me.val n q4)⟩
      simp only[execOp,hop,e2,hkv,Instr.mapEntry,Sem.run_bind,run_underlying hu,Result.andThen_ok,Cu e4,hck,q2,hold,hst,hbn,EJ e4,Sem.run_pure]
    ·cases h
   ·cases h
  ·cases h
 ·cases h
theorem AkG{w:World}{F:Nat→Prop}{a b:Ty}(val:b.den)(v:Value)(hv:Bj w F b val v):∀ {es:List (a.den×b.den)} {ms:List MapEntry} (n:Nat),IK w F a b es ms→IK w F a b (es.modify n fun e=>(e.1,val)) (ms.modify n fun e=>{ e with val:=v }):=by
 intro es
 induction es with
 |nil=>rintro ms n rfl;cases n<;>rfl
 |cons e es ih=>
  rintro ms n ⟨me,ms',rfl,⟨h1,h2⟩,h3⟩
  cases n with
  |zero=>exact⟨_,ms',rfl,⟨h1,hv⟩,h3⟩
  |succ n=>exact⟨me,_,rfl,⟨h1,h2⟩,ih n h3⟩
theorem Ae6{ms:Array MapEntry}{clock:Nat}(h:H0 ms clock){i:Nat}(hi:i<ms.size):ms.findIdx? (fun e=>(e.born:Int)==(i:Int))=some i:=by
 rw[Array.findIdx?_eq_some_iff_getElem]
 refine⟨hi,?_,fun j hj => ?_⟩
 ·have:=h.2 i ms[i] (by simp[hi])
  simp[this]
 ·have:=h.2 j ms[j] (by simp)
  simp[this]
  omega
theorem Wa(T:TypeId)(mm s y:Operand):Claim P E (.entryStore T mm s y):=by
 intro R ty ρ H fz slot k r h
 simp only[evalOp]at h
 split at h
 ·rename_i id i0 hm hs
  split at h
  ·rename_i ka b es ho
   split at h
   ·rename_i val fr hy
    split at h
    rotate_left
    ·cases h
    rename_i hc
    refine⟨_,_,h,fun R' k'=>by simp only[evalOp,hm,hs,ho,hy,hc],Fv fun w F m ρc o hop hty hi hr => ?_⟩
    have hgf:=Av.freeze hi fr
    have hrm:=hr mm
    rw[hm]at hrm
    unfold Rep at hrm
    rw[ho]at hrm
    obtain⟨bb,c,e1,e2⟩:=hrm
    obtain⟨b2,c',ms,clock,e3,e4,e5,e6⟩:=hgf.2.obj id _ ho
    rw[e1]at e3;cases e3
    have hrs:=hr s
    rw[hs]at hrs
    unfold Rep at hrs
    have hsv:=Ahn hrs
    have hvd:=FD hi hy (hr y)
    have hlt:=BQ e4
    have hlen:=AEI e5
    rw[Apl]at hlen
    rw[ApU,An,Af,Aqw,Aqw]at hc
    obtain⟨n,rfl⟩:=Apa hc.1
    have hn:n<ms.size:=by
     have:=hc.2
     unfold AM at this
     omega
    have hfi:=Ae6 e6 hn
    have hg:Av w (Dx F m H fr) m H (Al fr fz) { w with heap:=w.heap.setIfInBounds bb (.map (ms.modify n fun e=>{ e with val:=ρc y }) clock) } (Dx F m H fr) m (H.set id (.map ka b (Adx es (n:Int) val))) (Al fr fz):=by
     refine Av.set hgf.2 (Eg ho) e1 ho trivial rfl rfl rfl (by simp) (fun k hk=>by simp[AqH hk]) fun _ => ?_
     refine⟨bb,c,ms.modify n fun e=>{ e with val:=ρc y },clock,e1,by simp[hlt],?_,e6.modify n fun _=>rfl⟩
     have he:IK w (Dx F m H fr) ka b (es.modify n fun e=>(e.1,val)) (ms.modify n fun e=>{ e with val:=ρc y }).toList:=by
      rw[AsP];exact AkG val (ρc y) hvd n e5
     unfold Adx
     rw[AqM]
     refine he.mono (fun a ha => ?_) (fun _ h=>h)
     have:a.block≠bb:=by rintro rfl;exact hgf.2.off id _ c (Eg ho) e1 ha
     simp[World.cell?,AqH this]
    refine⟨_,_,m,?_,hgf.trans hg⟩
    simp only[execOp,hop,e2,hsv,Instr.entryStore,Sem.run_bind,Result.andThen_ok,Cu e4,asInt,asIntOf,Sem.run_pure,hfi,EJ e4]
   ·cases h
  ·cases h
 ·cases h
theorem J0(hE:∀ g,AO P g (E.spec g))(o:Op):Claim P E o:=by
 cases o with
 |move x=>exact AZd x
 |assign x=>exact AOI x
 |pick c a b=>exact AZc c a b
 |alloc T=>exact AT6 T
 |box T x=>exact Afy T x
 |build T parts=>exact AT4 T parts
 |buildSlice T len parts=>exact Wb T len parts
 |load T x=>exact AZe T x
 |store T x y=>exact AT0 T x y
 |nilCheck x=>exact AE6 x
 |binOp op T x y T'=>exact AT5 op T x y T'
 |unOp op T x=>exact AZb op T x
 |convert S T x=>exact AHd S T x
 |makeFunc fn first cs=>exact AE8 fn first cs
 |makeMap T r=>exact AHb T r
 |makeSlice T x y=>exact ZB T x y
 |slice T x lo up mx=>
  cases mx with
  |none=>exact WZ T x lo up
  |some mx=>exact Y9 T x lo up mx
 |fieldAddr T x f=>exact ZD T x f
 |field T x f=>exact AT2 T x f
 |indexAddr T x y=>exact ZC T x y
 |index T x y=>exact AT1 T x y
 |lookup T m x ok=>exact AOG T m x ok
 |mapUpdate T m x y=>exact ZA T m x y
 |insert T m x y=>exact AOH T m x y
 |mapEntry T m x=>exact AE7 T m x
 |entryStore T m s y=>exact Wa T m s y
 |extract x i=>exact AHc x i
 |call c=>
  obtain⟨callee,args,ts⟩:=c
  cases callee with
  |value f=>exact AZf hE f args ts
  |invoke r n=>intro R ty ρ H fz slot k r h;simp[evalOp]at h
  |builtin b=>
   cases b with
   |len=>exact Afw args ts
   |append=>exact AOJ args ts
   |cap=>exact Afx args ts
   |min=>exact Afu args ts
   |max=>exact Afv args ts
   |clear=>exact AT3 args ts
   |_=>intro R ty ρ H fz slot k r h;simp[evalOp]at h
 |_=>intro R ty ρ H fz slot k r h;simp[evalOp]at h
end
end Go.Pev
end
section
namespace Go.Pev
open Go.RowKit
structure SI(w:World)(F:Nat→Prop)(m:Mp)(st:St)(a:Act):Prop where
 tmps:∀ t,Rep w F m st.heap (st.tmps.getD t .junk) (a.tmps.getD t undef)
 size:st.tmps.length=a.tmps.size
 heap:HI w F m st.heap st.frz
 defers:a.defers=[]
def Aor{R:Type}(r:R)(k:St→Option R)(w:World)(F:Nat→Prop)(m:Mp)(H:List Ob)(fz:List Bool)(a':Act)(w':World):Prop:=
 ∃ st' F' m',k st'=some r∧SI w' F' m' st' a'∧Ext w F m H fz w' F' m' st'.heap st'.frz
section
variable {P:Program} {E:Env} {R:Type} {r:R}
theorem SI.put{w:World}{F:Nat→Prop}{m:Mp}{st:St}{a:Act}(h:SI w F m st a){v:AV}{u:Value}(hr:Rep w F m st.heap v u)(d:Option Tmp):SI w F m (st.put d v) (a.put d u):=by
 cases d with
 |none=>exact h
 |some d=>
  refine⟨fun t => ?_,by simp[St.put,Act.put,h.size],h.heap,h.defers⟩
  simp only[St.put,Act.put]
  by_cases htd:t=d
  ·subst htd
   by_cases hlt:t<st.tmps.length
   ·have hlt':t<a.tmps.size:=h.size▸hlt
    simp[hlt,hlt',hr]
   ·have hlt':¬ t<a.tmps.size:=h.size▸hlt
    have:=h.tmps t
    rw[ApP,AqE]at this ⊢
    rw[List.set_eq_of_length_le (by omega)]
    simpa [Array.setIfInBounds,hlt']using this
  ·have:=h.tmps t
   rw[ApP,AqE]at this ⊢
   rw[AqU (AqH htd),Array.getElem?_setIfInBounds_ne (AqH htd)]
   exact this
theorem SI.go{w w':World}{F F':Nat→Prop}{m m':Mp}{st:St}{a:Act}(h:SI w F m st a){e:Eff}(hg:Av w F m st.heap st.frz w' F' m' (Ck e st.heap) (GC e st.frz)):SI w' F' m' (st.app e) a:=
 ⟨fun t=>hg.1.rep h.heap (h.tmps t),h.size,hg.2,h.defers⟩
theorem SI.lit{w:World}{F:Nat→Prop}{m:Mp}{st:St}{a:Act}(h:SI w F m st a){d:Nat}{b:Bool}(hd:st.tmps[d]? = some (.data .bool b)):SI w F m { st with tmps:=st.tmps.set d (.data .bool b) } a:=by
 have:st.tmps.set d (.data .bool b)=st.tmps:=by
  apply AqY
  intro i
  by_cases hid:i=d
  ·subst hid
   rw[hd,ArO (by
    rcases AqV i st.tmps.length with h'|h'
    ·exact h'
    ·rw[Apm h']at hd;cases hd)]
  ·rw[AqU (AqH hid)]
 rw[this];exact h
theorem PC{w:World}{F:Nat→Prop}{m:Mp}{st:St}{a:Act}(h:SI w F m st a){ops:Array Oper}{j d:Nat}(hj:(ops.toList[j]?).bind (·.dst)=some d){b:Bool}(hd:st.tmps[d]? = some (.data .bool b)):
  yielded ops a.tmps j=some b:=by
 have hlt:d<st.tmps.length:=by
  rcases AqV d st.tmps.length with h'|h'
  ·exact h'
  ·rw[Apm h']at hd;cases hd
 have hlt':d<a.tmps.size:=h.size▸hlt
 have hr:=h.tmps d
 rw[ApP,hd,AqE,Aqf hlt']at hr
 have hb:=Cn hr
 simp only[AqI]at hb
 have hj':(ops[j]?).bind (·.dst)=some d:=by simpa using hj
 unfold yielded
 rw[hj']
 simp[Aqf hlt',hb]
theorem AP7{w:World}{F:Nat→Prop}{m:Mp}{H:List Ob}:Rep w F m H BJ undef:=by
 unfold BJ Rep
 exact⟨#[],rfl,by unfold Ag;rfl⟩
theorem Qc{w:World}{F:Nat→Prop}{m:Mp}{st:St}{a:Act}(h:SI w F m st a){ops:Array Oper}{j d:Nat}(hj:(ops.toList[j]?).bind (·.dst)=some d)(hd:st.tmps[d]? = some (.tup [])):
  yielded ops a.tmps j=none:=by
 have hlt:d<st.tmps.length:=by
  rcases AqV d st.tmps.length with h'|h'
  ·exact h'
  ·rw[Apm h']at hd;cases hd
 have hlt':d<a.tmps.size:=h.size▸hlt
 have hr:=h.tmps d
 rw[ApP,hd,AqE,Aqf hlt']at hr
 simp only[AqI]at hr
 unfold Rep at hr
 obtain⟨us,e,_⟩:=hr
 have hj':(ops[j]?).bind (·.dst)=some d:=by simpa using hj
 unfold yielded
 rw[hj']
 simp[Aqf hlt',e]
theorem AYJ{w:World}{F:Nat→Prop}{m:Mp}{st:St}{a:Act}(h:SI w F m st a){ops:Array Oper}{o:Oper}{yes no:St→Option R}(hg:guarded R ops.toList o.guard st yes no=some r):
  ∃ st',SI w F m st' a∧st'.heap=st.heap∧st'.frz=st.frz∧((Region.wanted o (yielded ops a.tmps)=true∧yes st'=some r)∨(Region.wanted o (yielded ops a.tmps)=false∧no st'=some r)):=by
 unfold guarded at hg
 split at hg
 ·rename_i hgd
  exact⟨st,h,rfl,rfl,.inl ⟨by simp[Region.wanted,hgd],hg⟩⟩
 ·rename_i j want hgd
  split at hg
  ·cases hg
  ·rename_i d hj
   split at hg
   ·rename_i b hd
    have hy:=PC h hj hd
    split at hg
    ·split at hg
     ·exact⟨_,h.lit hd,rfl,rfl,.inl ⟨by simp[Region.wanted,hgd,hy],hg⟩⟩
     ·exact⟨_,h.lit hd,rfl,rfl,.inr ⟨by simp[Region.wanted,hgd,hy],hg⟩⟩
    ·split at hg
     ·exact⟨_,h.lit hd,rfl,rfl,.inr ⟨by simp[Region.wanted,hgd,hy],hg⟩⟩
     ·exact⟨_,h.lit hd,rfl,rfl,.inl ⟨by simp[Region.wanted,hgd,hy],hg⟩⟩
   ·rename_i hd
    exact⟨st,h,rfl,rfl,.inr ⟨by simp[Region.wanted,hgd,Qc h hj hd],hg⟩⟩
   ·cases hg
theorem AdX(hE:∀ g,AO P g (E.spec g)){ops:Array Oper}{Q:Exit→Act→World→Prop}{k:St→Option R}:∀ (rest pre:List Oper) (slot:Nat) (st:St) (w:World) (F:Nat→Prop) (m:Mp) (a:Act),ops.toList=pre++rest →
  I9 P E R ops.toList rest slot st k=some r→SI w F m st a→(∀ a' w',Aor r k w F m st.heap st.frz a' w'→Q .normal a' w')→wpOps P ops Q (List.range' pre.length rest.length) a w:=by
 intro rest
 induction rest with
 |nil=>
  intro pre slot st w F m a _ h hs hq
  exact hq a w ⟨st,F,m,h,hs,Ext.refl ..⟩
 |cons o rest ih=>
  intro pre slot st w F m a hops h hs hq
  simp only[I9]at h
  have hget:ops[pre.length]? = some o:=by
   rw[← Arj,hops];simp
  have hops':ops.toList=(pre++[o])++rest:=by rw[hops];simp
  have hlen:(pre++[o]).length=pre.length+1:=by simp
  rw[ApW,List.range'_succ]
  simp only[wpOps,hget]
  obtain⟨st',hs',e1,e2,hh⟩:=AYJ hs h
  rcases hh with⟨hw,hy⟩|⟨hw,hn⟩
  ·rw[ApZ hw]
   left
   obtain⟨v,e,h1,_,h3⟩:=J0 hE o.op R _ _ _ _ _ _ _ hy
   refine h3 w F m a o _ Q rfl rfl hs'.heap (fun x=>ADm hs'.tmps x) fun u w' F' m' hg hr => ?_
   have hs2:=(hs'.go hg).put hr o.dst
   have:=ih (pre++[o]) _ _ w' F' m' (a.put o.dst u) hops' h1 hs2 fun a' w'' ⟨st2,F2,m2,q1,q2,q3⟩=>hq a' w'' ⟨st2,F2,m2,q1,q2,by
    have hx:=hg.1
    rw[e1,e2]at hx
    refine hx.trans ?_
    have:((st'.app e).put o.dst v).heap=Ck e st.heap∧((st'.app e).put o.dst v).frz=GC e st.frz:=by
     cases o.dst<;>simp[St.put,St.app,e1,e2]
    rw[this.1,this.2]at q3
    exact q3⟩
   rw[hlen]at this
   exact this
  ·rw[ApV (by simp[hw])]
   have hs2:SI w F m (st'.put o.dst BJ) (a.put o.dst undef):=hs'.put AP7 o.dst
   have:=ih (pre++[o]) _ _ w F m (a.put o.dst undef) hops' hn hs2 fun a' w'' ⟨st2,F2,m2,q1,q2,q3⟩=>hq a' w'' ⟨st2,F2,m2,q1,q2,by
    have:(st'.put o.dst BJ).heap=st.heap∧(st'.put o.dst BJ).frz=st.frz:=by
     cases o.dst<;>simp[St.put,e1,e2]
    rw[this.1,this.2]at q3
    exact q3⟩
   rw[hlen]at this
   exact this
theorem HI.pad{w:World}{F:Nat→Prop}{m:Mp}{H:List Ob}{fz:List Bool}(hi:HI w F m H fz)(n:Nat):Av w F m H fz w F m (H++List.replicate n .free) (fz++List.replicate n false):=by
 have hget:∀ i o,H[i]? = some o→(H++List.replicate n Ob.free)[i]? = some o:=fun i o h=>by
  rw[Apu (At h)];exact h
 have hget':∀ i o,(H++List.replicate n Ob.free)[i]? = some o→H[i]? = some o∨o=Ob.free:=fun i o h=>by
  rcases AqV i H.length with hl|hl
  ·rw[Apu hl]at h;exact .inl h
  ·rw[Apx hl]at h
   exact .inr (Arc (Apb h))
 have hfz:∀ i,(fz++List.replicate n false).getD i false=fz.getD i false:=fun i=>by
  rw[ApP,ApP]
  rcases AqV i fz.length with hl|hl
  ·rw[Apu hl]
  ·rw[Apx hl,Apm hl]
   cases hx:(List.replicate n false)[i-fz.length]? with
   |none=>rfl
   |some b=>rw[Arc (Apb hx)];rfl
 have hown:∀ i,owned (H++List.replicate n .free) (fz++List.replicate n false) i→owned H fz i:=fun i ho=>by
  obtain⟨o,h1,h2,h3⟩:=CA ho
  unfold owned at *
  rcases hget' i o h1 with h4|h4
  ·rw[h4];rw[h1]at ho
   cases o with
   |free=>exact absurd rfl h2
   |dead=>exact absurd rfl h3
   |box cs=>trivial
   |map a b es=>trivial
   |prs T t is=>trivial
   |arr T t xs=>simp only at ho ⊢;rw[hfz]at ho;exact ho
  ·exact absurd h4 h2
 have hcomp:C7 H (H++List.replicate n .free) m m:=by
  intro i o ho hf
  rcases C7.refl H m i o ho hf with h|⟨hd,o',h1,h2,_⟩
  ·exact .inl (hget i _ h)
  ·exact .inr ⟨hd,o',hget i _ h1,h2,rfl⟩
 refine⟨⟨rfl,rfl,rfl,ApY _,fun _ _ _=>rfl,fun _ h=>h,fun _ h=>.inl h,fun i b c h1 h2=>.inl ⟨i,c,hown i h1,h2⟩,hcomp⟩,⟨?_,?_,?_,?_,hi.lt,by simp[hi.len]⟩⟩
 ·intro id o ho
  rcases hget' id o ho with h|rfl
  ·exact ObI.mono (fun _ _=>rfl) (fun _ h=>h) hcomp (fun _ _ _ _ _ _=>rfl) (hi.obj id o h)
  ·trivial
 ·exact fun i k b c b' c' h1 h2=>hi.sep i k b c b' c' (hown i h1) (hown k h2)
 ·exact fun i b c h1=>hi.off i b c (hown i h1)
 ·intro i T t xs b c hio hf hmi
  rw[hfz]at hf
  rcases hget' i _ hio with h|h
  ·exact hi.froz i T t xs b c h hf hmi
  ·cases h
theorem SI.pad{w:World}{F:Nat→Prop}{m:Mp}{st:St}{a:Act}(h:SI w F m st a)(n:Nat):SI w F m (st.pad n) a∧Ext w F m st.heap st.frz w F m (st.pad n).heap (st.pad n).frz:=by
 have hg:=h.heap.pad n
 exact⟨⟨fun t=>hg.1.rep h.heap (h.tmps t),h.size,hg.2,h.defers⟩,hg.1⟩
theorem ALx(hE:∀ g,AO P g (E.spec g)){id:Nat}{ops:Array Oper}{Q:Exit→Act→World→Prop}{k:St→Option R}{st:St}{w:World}{F:Nat→Prop}{m:Mp}{a:Act}(h:HM P E R ops.toList st k=some r)(hs:SI w F m st a)
  (hq:∀ a' w',Aor r k w F m st.heap st.frz a' w'→Q .normal a' w'):(Code.region id ops false).wp P Q a w:=by
 obtain⟨h1,h2⟩:=hs.pad (Ez ops.toList)
 have:=AdX hE ops.toList [] _ _ w F m a (by simp) h h1 fun a' w' ⟨st',F',m',q1,q2,q3⟩=>hq a' w' ⟨st',F',m',q1,q2,h2.trans q3⟩
 rw[Apk,Apl,← List.range_eq_range']at this
 exact wp_region this
end
end Go.Pev
end
section
namespace Go.Pev
open Go.RowKit
theorem FF{H H':List Ob}(t:Ty)(v:AV)(h:∀ id∈Ay v,H[id]? = H'[id]?):Dz H t v=Dz H' t v:=by
 cases v<;>simp only[Dz]
 ·rename_i id;rw[h id (by simp[Ay])]
 ·rename_i id off n;rw[h id (by simp[Ay])]
theorem AYG{α:Type}{one one':List AV→Option (α×List Nat×List AV)}{H H':List Ob}
  (h1:∀ cs,(∀ id∈BF cs,H[id]? = H'[id]?)→one cs=one' cs) (h2:∀ cs x f r,one cs=some (x,f,r)→∃ c0,cs=c0++r) :
  ∀ (n:Nat) (cs:List AV),(∀ id∈BF cs,H[id]? = H'[id]?)→RT one n cs=RT one' n cs:=by
 intro n
 induction n with
 |zero=>intro cs _;rfl
 |succ n ih=>
  intro cs h
  simp only[RT]
  rw[← h1 cs h]
  cases ho:one cs with
  |none=>rfl
  |some p=>
   obtain⟨x,f,r⟩:=p
   simp only
   obtain⟨c0,hc⟩:=h2 _ _ _ _ ho
   rw[ih r fun id hid=>h id (by
    subst hc
    clear ho
    induction c0 with
    |nil=>exact hid
    |cons c c0 ih'=>simp only[Aps,BF,ApR];exact .inr (ih' fun id hid=>h id (by simp only[Aps,BF,ApR];exact .inr hid)))]
theorem AeX{α:Type}{one:List AV→Option (α×List Nat×List AV)}(h2:∀ cs x f r,one cs=some (x,f,r)→∃ c0,cs=c0++r):
  ∀ (n:Nat) (cs:List AV) (xs:List α) (f:List Nat) (r:List AV),RT one n cs=some (xs,f,r)→∃ c0,cs=c0++r:=by
 intro n
 induction n with
 |zero=>intro cs xs f r h;simp only[RT,ApN,Apj]at h;exact⟨[],h.2.2⟩
 |succ n ih=>
  intro cs xs f r h
  simp only[RT]at h
  split at h
  ·cases h
  ·rename_i x f1 cs1 ho
   split at h
   ·cases h
   ·rename_i ys g cs2 hi
    simp only[ApN,Apj]at h
    obtain⟨_,_,rfl⟩:=h
    obtain⟨c0,rfl⟩:=h2 _ _ _ _ ho
    obtain⟨c1,rfl⟩:=ih _ _ _ _ hi
    exact⟨c0++c1,by simp⟩
theorem RU{H:List Ob}:∀ (t:Ty) (cs:List AV) (x:t.den) (f:List Nat) (r:List AV),As H t cs=some (x,f,r)→∃ c0,cs=c0++r:=by
 intro t
 induction t with
 |unit=>intro cs x f r h;simp only[As,ApN,Apj]at h;exact⟨[],h.2.2⟩
 |bool=>
  intro cs x f r h
  cases cs with
  |nil=>simp[As]at h
  |cons c cs=>
   unfold As at h
   split at h
   ·cases h
   ·simp only[ApN,Apj]at h;exact⟨[c],by simp[h.2.2]⟩
 |int k=>
  intro cs x f r h
  cases cs with
  |nil=>simp[As]at h
  |cons c cs=>
   unfold As at h
   split at h
   ·cases h
   ·simp only[ApN,Apj]at h;exact⟨[c],by simp[h.2.2]⟩
 |slice e _=>
  intro cs x f r h
  cases cs with
  |nil=>simp[As]at h
  |cons c cs=>
   unfold As at h
   split at h
   ·cases h
   ·simp only[ApN,Apj]at h;exact⟨[c],by simp[h.2.2]⟩
 |nul e=>
  intro cs x f r h
  cases cs with
  |nil=>simp[As]at h
  |cons c cs=>
   unfold As at h
   split at h
   ·cases h
   ·simp only[ApN,Apj]at h;exact⟨[c],by simp[h.2.2]⟩
 |prod a b iha ihb=>
  intro cs x f r h
  simp only[As]at h
  split at h
  ·cases h
  ·rename_i y f1 cs1 hy
   split at h
   ·cases h
   ·rename_i z g cs2 hz
    simp only[ApN,Apj]at h
    obtain⟨_,_,rfl⟩:=h
    obtain⟨c0,rfl⟩:=iha _ _ _ _ hy
    obtain⟨c1,rfl⟩:=ihb _ _ _ _ hz
    exact⟨c0++c1,by simp⟩
 |arr n e ih=>
  intro cs x f r h
  simp only[As]at h
  exact AeX ih n cs _ _ _ h
theorem Dg(a b:List AV):BF (a++b)=BF a++BF b:=by
 induction a with
 |nil=>rfl
 |cons x a ih=>simp[BF,ih]
theorem Og{H H':List Ob}:∀ (t:Ty) (cs:List AV),(∀ id∈BF cs,H[id]? = H'[id]?)→As H t cs=As H' t cs:=by
 intro t
 induction t with
 |unit=>intro cs _;cases cs<;>rfl
 |bool=>
  intro cs h
  cases cs with
  |nil=>rfl
  |cons c cs=>unfold As;rw[FF .bool c fun id hid=>h id (by simp[BF,hid])]
 |int k=>
  intro cs h
  cases cs with
  |nil=>rfl
  |cons c cs=>unfold As;rw[FF (.int k) c fun id hid=>h id (by simp[BF,hid])]
 |slice e _=>
  intro cs h
  cases cs with
  |nil=>rfl
  |cons c cs=>unfold As;rw[FF (.slice e) c fun id hid=>h id (by simp[BF,hid])]
 |nul e=>
  intro cs h
  cases cs with
  |nil=>rfl
  |cons c cs=>unfold As;rw[FF (.nul e) c fun id hid=>h id (by simp[BF,hid])]
 |prod a b iha ihb=>
  intro cs h
  simp only[As]
  rw[← iha cs h]
  cases hx:As H a cs with
  |none=>rfl
  |some p=>
   obtain⟨x,f,r⟩:=p
   simp only
   obtain⟨c0,rfl⟩:=RU a _ _ _ _ hx
   rw[ihb r fun id hid=>h id (by rw[Dg];simp[hid])]
 |arr n e ih=>
  intro cs h
  simp only[As]
  exact AYG ih (RU e) n cs h
theorem Bg{H H':List Ob}(t:Ty)(v:AV)(h:∀ id∈Ay v,H[id]? = H'[id]?):FE H t v=FE H' t v:=by
 unfold FE
 split
 ·cases v<;>simp only[asAgg]
  rename_i cs
  rw[Og t cs fun id hid=>h id (by simpa [Ay]using hid)]
 ·exact FF t v h
structure TC(T:List Nat)(slot n:Nat)(W:List Nat)(H H':List Ob)(fz fz':List Bool):Prop where
 heap:∀ id∈T,H[id]? = H'[id]?
 slotH:∀ s,slot≤s→s<slot+n→H[s]? = H'[s]?
 slotF:∀ s,slot≤s→s<slot+n→fz.getD s false=fz'.getD s false
 len:fz.length=fz'.length
 wrF:∀ id∈W,fz.getD id false=fz'.getD id false
theorem Dm{T:List Nat}{slot n:Nat}{W:List Nat}{H H':List Ob}{fz fz':List Bool}(h:TC T slot n W H H' fz fz'){s:Nat}(h1:slot≤s)(h2:s<slot+n)(fr:List Nat):
  Au H (Al fr fz) s=Au H' (Al fr fz') s:=by
 unfold Au
 rw[h.slotH s h1 h2,A2,A2,h.slotF s h1 h2,h.len]
theorem Ce{T:List Nat}{slot n:Nat}{W:List Nat}{H H':List Ob}{fz fz':List Bool}(h:TC T slot n W H H' fz fz'){s:Nat}(h1:slot≤s)(h2:s<slot+n):
  Au H fz s=Au H' fz' s:=Dm h h1 h2 []
theorem DL{T W:List Nat}{slot n:Nat}{H H':List Ob}{fz fz':List Bool}(h:TC T slot n W H H' fz fz'){id:Nat}(hid:id∈W)(fr:List Nat):
  Ap (Al fr fz) id=Ap (Al fr fz') id:=by
 unfold Ap
 rw[A2,A2,h.wrF id hid,h.len]
def GF(s:Spec):Prop:=
 ∀ R args H H' fz fz' slot k,TC (BF args) slot 4 [] H H' fz fz'→s R args H fz slot k=s R args H' fz' slot k
def Zy(S:List Nat)(H:List Ob):Prop:=∀ id∈S,∀ cs,H[id]? = some (.box cs)→∀ j∈BF cs,j∈S
def OH(s:Spec):Prop:=
 ∀ R args H H' fz fz' slot k (S:List Nat),(∀ id∈BF args,id∈S)→Zy S H→TC S slot 4 S H H' fz fz'→s R args H fz slot k=s R args H' fz' slot k
def Ir(E:Env):Prop:=(∀ g,E.loc g=true→GF (E.spec g))∧∀ g,E.loc2 g=true→OH (E.spec g)
section
variable {P:Program} {E:Env}
theorem Pn{ρ ρ':Operand→AV}{l:List Operand}(h:∀ x∈l,ρ x=ρ' x):l.map ρ=l.map ρ':=Aq9 h
theorem XX{ρ ρ':Operand→AV}{l:List (Nat×Operand)}(h:∀ x∈l.map (·.2),ρ x=ρ' x):(l.map fun p=>(p.1,ρ p.2))=l.map fun p=>(p.1,ρ' p.2):=
 Aq9 fun p hp=>by rw[h p.2 (List.mem_map_of_mem hp)]
theorem RQ{ρ ρ':Operand→AV}{o:Option Operand}(h:∀ x∈o.toArray,ρ x=ρ' x):Hj ρ o=Hj ρ' o:=by
 cases o with
 |none=>rfl
 |some x=>simp only[Hj];rw[h x (by simp)]
theorem Bo{R:Type}{ρ ρ':Operand→AV}(o:Op)(ty:TypeId)(H:List Ob)(fz:List Bool)(slot:Nat)(k:AV→Eff→Option R)(h:∀ x∈o.operands,ρ x=ρ' x):
  evalOp P E R o ty ρ H fz slot k=evalOp P E R o ty ρ' H fz slot k:=by
 cases o with
 |call c=>
  obtain⟨callee,args,ts⟩:=c
  cases callee with
  |value f=>
   have hf:=h f (by simp[Op.operands,Call.operands])
   have ha:args.toList.map ρ=args.toList.map ρ':=Pn fun x hx=>h x (by simp[Op.operands,Call.operands];right;simpa using hx)
   simp only[evalOp,hf,ha]
  |invoke r n=>rfl
  |builtin b=>
   have ha:∀ x∈args.toList,ρ x=ρ' x:=fun x hx=>h x (by simp[Op.operands,Call.operands];simpa using hx)
   cases b with
   |len=>
    simp only[evalOp]
    cases hl:args.toList with
    |nil=>rfl
    |cons x r=>cases r with
     |nil=>
      rw[hl]at ha
      cases ts.toList with
      |nil=>rfl
      |cons T r=>cases r with
       |nil=>simp only[ha x (by simp)]
       |cons T' r=>rfl
     |cons y r=>rfl
   |append=>
    simp only[evalOp]
    cases hl:args.toList with
    |nil=>rfl
    |cons x r=>cases r with
     |nil=>rfl
     |cons y r=>cases r with
      |nil=>
       rw[hl]at ha
       cases ts.toList with
       |nil=>rfl
       |cons T r=>cases r with
        |nil=>rfl
        |cons T' r=>cases r with
         |nil=>simp only[ha x (by simp),ha y (by simp)]
         |cons T'' r=>rfl
      |cons z r=>rfl
   |cap=>
    simp only[evalOp]
    cases hl:args.toList with
    |nil=>rfl
    |cons x r=>cases r with
     |nil=>
      rw[hl]at ha
      cases ts.toList with
      |nil=>rfl
      |cons T r=>cases r with
       |nil=>simp only[ha x (by simp)]
       |cons T' r=>rfl
     |cons y r=>rfl
   |clear=>
    simp only[evalOp]
    cases hl:args.toList with
    |nil=>rfl
    |cons x r=>cases r with
     |nil=>
      rw[hl]at ha
      cases ts.toList with
      |nil=>rfl
      |cons T r=>cases r with
       |nil=>simp only[ha x (by simp)]
       |cons T' r=>rfl
     |cons y r=>rfl
   |min=>
    simp only[evalOp]
    cases hl:args.toList with
    |nil=>rfl
    |cons x r=>cases r with
     |nil=>rfl
     |cons y r=>cases r with
      |nil=>
       rw[hl]at ha
       simp only[ha x (by simp),ha y (by simp)]
      |cons z r=>rfl
   |max=>
    simp only[evalOp]
    cases hl:args.toList with
    |nil=>rfl
    |cons x r=>cases r with
     |nil=>rfl
     |cons y r=>cases r with
      |nil=>
       rw[hl]at ha
       simp only[ha x (by simp),ha y (by simp)]
      |cons z r=>rfl
   |_=>rfl
 |build T parts=>
  have:=XX (ρ:=ρ) (ρ':=ρ') (l:=parts.toList) fun x hx=>h x (by simpa [Op.operands]using hx)
  simp only[evalOp,this]
 |buildSlice T n parts=>
  have:=XX (ρ:=ρ) (ρ':=ρ') (l:=parts.toList) fun x hx=>h x (by simpa [Op.operands]using hx)
  simp only[evalOp,this]
 |makeFunc fn first cs=>
  cases fn with
  |func f=>
   have:=Pn (ρ:=ρ) (ρ':=ρ') (l:=cs.toList) fun x hx=>h x (by simp[Op.operands];right;simpa using hx)
   have hfst:=Pn (ρ:=ρ) (ρ':=ρ') (l:=first.toList) fun x hx=>h x (by simp[Op.operands];left;simpa using hx)
   simp only[evalOp,this]
   cases hfl:first.toList with
   |nil=>rfl
   |cons y ys=>
    rw[hfl]at hfst
    simp only[hfst]
  |_=>rfl
 |slice T x lo up mx=>
  have hx:=h x (by simp[Op.operands])
  have hlo:=RQ (ρ:=ρ) (ρ':=ρ') (o:=lo) fun y hy=>h y (by simp[Op.operands];simp at hy;simp[hy])
  have hup:=RQ (ρ:=ρ) (ρ':=ρ') (o:=up) fun y hy=>h y (by simp[Op.operands];simp at hy;simp[hy])
  cases mx with
  |none=>simp only[evalOp,hx,hlo,hup]
  |some m=>
   have hm:=h m (by simp[Op.operands])
   rcases up with _|q
   ·simp only[evalOp,hx,hlo,hup,hm]
   ·have hq:=h q (by simp[Op.operands])
    cases q<;>simp only[evalOp,hx,hlo,hup,hm,hq]
 |makeMap T o=>cases o<;>rfl
 |pick a b c=>simp only[evalOp,h a (by simp[Op.operands]),h b (by simp[Op.operands]),h c (by simp[Op.operands])]
 |mapUpdate a b c d=>simp only[evalOp,h b (by simp[Op.operands]),h c (by simp[Op.operands]),h d (by simp[Op.operands])]
 |mapEntry a b c=>simp only[evalOp,h b (by simp[Op.operands]),h c (by simp[Op.operands])]
 |entryStore a b c d=>simp only[evalOp,h b (by simp[Op.operands]),h c (by simp[Op.operands]),h d (by simp[Op.operands])]
 |insert a b c d=>simp only[evalOp,h b (by simp[Op.operands]),h c (by simp[Op.operands]),h d (by simp[Op.operands])]
 |move x|assign x|box _ x|load _ x|nilCheck x|unOp _ _ x|convert _ _ x|fieldAddr _ x _|field _ x _|extract x _=>
  simp only[evalOp,h x (by simp[Op.operands])]
 |store _ x y|binOp _ _ x y _|makeSlice _ x y|indexAddr _ x y|index _ x y|lookup _ x y _=>
  simp only[evalOp,h x (by simp[Op.operands]),h y (by simp[Op.operands])]
 |_=>rfl
theorem HT{ρ:Operand→AV}{o:Op}{x:Operand}(hx:x∈o.operands){id:Nat}(hid:id∈Ay (ρ x)):id∈Gt ρ o:=by
 unfold Gt
 exact ArT.2 ⟨x,by simpa using hx,hid⟩
theorem Yz{H H':List Ob}(t:Ty):∀ (ps:List (Nat×AV)) (xs:List t.den) (fr:List Nat),(∀ p∈ps,∀ id∈Ay p.2,H[id]? = H'[id]?)→DA H t ps xs fr=DA H' t ps xs fr:=by
 intro ps
 induction ps with
 |nil=>intro xs fr _;rfl
 |cons p ps ih=>
  intro xs fr h
  obtain⟨i,v⟩:=p
  simp only[DA]
  rw[Bg t v (h (i,v) (by simp))]
  cases FE H' t v with
  |none=>rfl
  |some q=>cases decide (i<xs.length)with
   |true=>exact ih _ _ fun p hp=>h p (by simp[hp])
   |false=>rfl
theorem GP:∀ (t:Ty) (d:t.den),BF (BH t d)=[]:=by
 intro t
 induction t with
 |unit=>intro d;rfl
 |bool=>intro d;rfl
 |int k=>intro d;rfl
 |slice e _=>intro d;rfl
 |nul e=>intro d;rfl
 |prod a b iha ihb=>intro d;simp only[BH];rw[Dg,iha,ihb];rfl
 |arr n e ih=>
  intro d
  simp only[BH]
  have key:∀ l:List Nat,BF (l.flatMap fun i=>BH e (AY d i e.zero))=[]:=by
   intro l
   induction l with
   |nil=>rfl
   |cons x xs ih'=>rw[Ap7,Dg,ih,ih'];rfl
  exact key _
theorem AWP(l:List AV)(n:Nat){id:Nat}(h:id∈BF (l.take n)):id∈BF l:=by
 have:=AqX n l
 rw[← this,Dg];simp[h]
theorem AWQ(l:List AV)(n:Nat){id:Nat}(h:id∈BF (l.drop n)):id∈BF l:=by
 have:=AqX n l
 rw[← this,Dg];simp[h]
theorem cells?_refs{v:AV}{vs:List AV}(h:cells? v=some vs){id:Nat}(hid:id∈BF vs):id∈Ay v:=by
 cases v with
 |junk=>simp[cells?]at h
 |tup _=>simp[cells?]at h
 |agg cs=>simp only[cells?,ApN]at h;subst h;simpa [Ay]using hid
 |data t d=>
  cases t with
  |unit=>simp only[cells?,ApN]at h;subst h;simp[BF]at hid
  |prod a b=>simp only[cells?,ApN]at h;subst h;rw[GP]at hid;cases hid
  |arr n e=>simp only[cells?,ApN]at h;subst h;rw[GP]at hid;cases hid
  |bool=>simp only[cells?,ApN]at h;subst h;simpa [BF]using hid
  |int k=>simp only[cells?,ApN]at h;subst h;simpa [BF]using hid
  |slice e=>simp only[cells?,ApN]at h;subst h;simpa [BF]using hid
  |nul e=>simp only[cells?,ApN]at h;subst h;simpa [BF]using hid
 |_=>simp only[cells?,ApN]at h;subst h;simpa [BF]using hid
theorem AWj{t:Ty}{d:t.den}{v:AV}{vs cs:List AV}{s:Nat}(hp:DT (BH t d) vs s=some cs)(hc:cells? v=some vs){id:Nat}(hid:id∈BF cs):id∈Ay v:=by
 unfold DT at hp
 split at hp
 ·simp only[ApN]at hp;subst hp
  rw[Dg,Dg,ApR,ApR]at hid
  rcases hid with(hid|hid)|hid
  ·have:=AWP _ _ hid;rw[GP]at this;cases this
  ·exact cells?_refs hc hid
  ·have:=AWQ _ _ hid;rw[GP]at this;cases this
 ·cases hp
theorem Oz{R:Type}(hL:Ir E){ρ:Operand→AV}(o:Op)(ty:TypeId){H H':List Ob}{fz fz':List Bool}{slot:Nat}(k:AV→Eff→Option R)
  (ha:TC (Gt ρ o) slot (slotsOf o) (Et ρ o) H H' fz fz') (hl:GS E ρ o=true):evalOp P E R o ty ρ H fz slot k=evalOp P E R o ty ρ H' fz' slot k:=by
 have tm:∀ x∈o.operands,∀ id∈Ay (ρ x),H[id]? = H'[id]? := fun x hx id hid=>ha.heap id (HT hx hid)
 have own:∀ x∈o.operands,∀ id,ρ x = .own id→H[id]? = H'[id]? := fun x hx id h=>tm x hx id (by rw[h];simp[Ay])
 have win:∀ x∈o.operands,∀ id off n,ρ x = .win id off n→H[id]? = H'[id]? := fun x hx id off n h=>tm x hx id (by rw[h];simp[Ay])
 have ptr:∀ x∈o.operands,∀ id off,ρ x = .ptr id off→H[id]? = H'[id]? := fun x hx id off h=>tm x hx id (by rw[h];simp[Ay])
 have ept:∀ x∈o.operands,∀ id i s,ρ x = .eptr id i s→H[id]? = H'[id]? := fun x hx id i s h=>tm x hx id (by rw[h];simp[Ay])
 have mpp:∀ x∈o.operands,∀ id,ρ x = .mp id→H[id]? = H'[id]? := fun x hx id h=>tm x hx id (by rw[h];simp[Ay])
 cases o with
 |alloc T=>
  simp only[evalOp,Ce ha (s:=slot) (ApY _) (by simp[slotsOf])]
 |box T x=>
  simp only[evalOp,Ce ha (s:=slot) (ApY _) (by simp[slotsOf])]
 |buildSlice T n parts=>
  have hf:∀ (t:Ty) xs fr,DA H t (parts.toList.map fun p=>(p.1,ρ p.2)) xs fr=DA H' t (parts.toList.map fun p=>(p.1,ρ p.2)) xs fr:=fun t xs fr=>
   Yz t _ xs fr fun p hp id hid=>by
    obtain⟨q,hq,rfl⟩:=Aph.1 hp
    exact tm q.2 (by simp[Op.operands];exact⟨q.1,by simpa using hq⟩) id hid
  simp only[evalOp,hf,Dm ha (s:=slot) (ApY _) (by simp[slotsOf]),Ce ha (s:=slot) (ApY _) (by simp[slotsOf])]
  cases sliceAt P T with
  |some p=>rfl
  |none=>
   dsimp only
   cases cellAt P T with
   |none=>rfl
   |some e=>cases decide (n=1)with
    |false=>rfl
    |true=>
     cases hps:parts.toList with
     |nil=>rfl
     |cons p r=>cases r with
      |cons p' r=>rfl
      |nil=>
       simp only[Ap2,ArB]
       cases hx:ρ p.2<;>try rfl
       rename_i id i s
       dsimp only
       simp only[Cl,ept p.2 (by simp[Op.operands];exact⟨p.1,(by simpa using (show p∈parts.toList by rw[hps];simp))⟩) id i s hx]
 |load T x=>
  simp only[evalOp]
  cases BI P T with
  |none=>rfl
  |some n=>cases D5 P T with
   |none=>rfl
   |some ag=>
    cases hx:ρ x<;>try rfl
    ·rename_i id off;simp only[ptr x (by simp[Op.operands]) id off hx]
    ·rename_i id i s;simp only[ept x (by simp[Op.operands]) id i s hx]
 |store T x y=>
  have hy:=tm y (by simp[Op.operands])
  simp only[evalOp]
  cases hs:BI P T with
  |none=>rfl
  |some n=>cases hc:cells? (ρ y)with
   |none=>rfl
   |some vs=>
    dsimp only
    cases hd:decide (vs.length=n)with
    |false=>rfl
    |true=>
     dsimp only
     cases hx:ρ x<;>try rfl
     ·rename_i id off;dsimp only;rw[ptr x (by simp[Op.operands]) id off hx]
     ·rename_i id i s
      dsimp only
      rw[ept x (by simp[Op.operands]) id i s hx]
      have hun:∀ fr,Ap (Al fr fz) id=Ap (Al fr fz') id:=fun fr=>DL ha (by simp[Et,hx,Ay]) fr
      cases H'[id]? with
      |none=>rfl
      |some ob=>cases ob with
       |arr T' t xs=>
        simp only[hun,Bg _ (ρ y) hy]
        cases t.nul? with
        |some e=>rfl
        |none=>
        dsimp only
        cases (s==0&&n==t.size)with
        |true=>rfl
        |false=>
         dsimp only
         cases hp:DT (BH t (AY xs i t.zero)) vs s with
         |none=>rfl
         |some cs=>
          dsimp only
          rw[Og t cs (fun id' hid=>hy id' (AWj hp hc hid))]
       |_=>rfl
 |nilCheck x=>
  simp only[evalOp]
  cases hx:ρ x<;>try rfl
  ·rename_i id off;simp only[IW,ptr x (by simp[Op.operands]) id off hx]
  ·rename_i id i s;simp only[Cl,ept x (by simp[Op.operands]) id i s hx]
 |fieldAddr T x f=>
  simp only[evalOp]
  cases fieldAt P T f with
  |none=>rfl
  |some p=>
   obtain⟨off,size,ag⟩:=p
   dsimp only
   cases decide (size=0)with
   |true=>rfl
   |false=>
    dsimp only
    cases hx:ρ x<;>try rfl
    ·rename_i id off;simp only[IW,ptr x (by simp[Op.operands]) id off hx]
    ·rename_i id i s;simp only[Cl,ept x (by simp[Op.operands]) id i s hx]
 |makeMap T o=>
  cases o with
  |none=>simp only[evalOp,Ce ha (s:=slot) (ApY _) (by simp[slotsOf])]
  |some x=>rfl
 |makeSlice T x y=>simp only[evalOp,Ce ha (s:=slot) (ApY _) (by simp[slotsOf])]
 |slice T x lo up mx=>
  have hx:=tm x (by simp[Op.operands])
  cases mx with
  |none=>
   have hsl:∀ sz l h,GL H sz (ρ x) l h R=GL H' sz (ρ x) l h R:=fun sz l h=>by
    funext kk
    unfold GL
    cases hv:ρ x with
    |data t d=>cases t<;>rfl
    |own id=>dsimp only;rw[own x (by simp[Op.operands]) id hv]
    |win id off n=>dsimp only;rw[win x (by simp[Op.operands]) id off n hv]
    |_=>rfl
   simp only[evalOp,hsl]
  |some mm=>
   have hsl:Fi H (ρ x)=Fi H' (ρ x):=by
    unfold Fi
    cases hv:ρ x with
    |data t d=>cases t<;>rfl
    |own id=>simp only[Cl,own x (by simp[Op.operands]) id hv]
    |win id off n=>simp only[Cl,win x (by simp[Op.operands]) id off n hv]
    |_=>rfl
   simp only[evalOp,hsl,Ce ha (s:=slot) (ApY _) (by simp[slotsOf])]
 |indexAddr T x y=>
  simp only[evalOp]
  cases hu:P.underlying T with
  |none=>rfl
  |some d=>cases d with
   |slice e=>
    cases hy:ρ y<;>try rfl
    rename_i t d'
    cases t<;>try rfl
    cases hv:ρ x with
    |data t d=>cases t<;>rfl
    |own id=>dsimp only;rw[own x (by simp[Op.operands]) id hv]
    |win id off n=>dsimp only;rw[win x (by simp[Op.operands]) id off n hv]
    |_=>rfl
   |array n e=>
    cases hy:ρ y<;>try rfl
    rename_i t d'
    cases t<;>try rfl
    rename_i j
    dsimp only
    cases BI P e with
    |none=>rfl
    |some s=>cases decide (0≤(d':Int)∧(d':Int)<(n:Int))with
     |false=>rfl
     |true=>
      dsimp only
      cases hv:ρ x<;>try rfl
      ·rename_i id off;simp only[IW,ptr x (by simp[Op.operands]) id off hv]
      ·rename_i id i s;simp only[Cl,ept x (by simp[Op.operands]) id i s hv]
   |_=>rfl
 |lookup T a b ok=>
  have hb:=fun t=>Bg t (ρ b) (tm b (by simp[Op.operands]))
  simp only[evalOp]
  cases hu:P.underlying T with
  |none=>rfl
  |some d=>cases d with
   |map kt vt=>
    cases hv:ρ a<;>try rfl
    rename_i id
    dsimp only
    rw[mpp a (by simp[Op.operands]) id hv]
    simp only[hb]
   |_=>rfl
 |mapUpdate T a b c=>
  have hb:=fun t=>Bg t (ρ b) (tm b (by simp[Op.operands]))
  have hc:=fun t=>Bg t (ρ c) (tm c (by simp[Op.operands]))
  simp only[evalOp]
  cases hu:P.underlying T with
  |none=>rfl
  |some d=>cases d with
   |map kt vt=>
    cases hv:ρ a<;>try rfl
    rename_i id
    dsimp only
    rw[mpp a (by simp[Op.operands]) id hv]
    simp only[hb,hc]
   |_=>rfl
 |mapEntry T a b=>
  have hb:=fun t=>Bg t (ρ b) (tm b (by simp[Op.operands]))
  simp only[evalOp]
  cases hu:P.underlying T with
  |none=>rfl
  |some d=>cases d with
   |map kt vt=>
    cases hv:ρ a<;>try rfl
    rename_i id
    dsimp only
    rw[mpp a (by simp[Op.operands]) id hv]
    simp only[hb]
   |_=>rfl
 |entryStore T a b c=>
  have hc:=fun t=>Bg t (ρ c) (tm c (by simp[Op.operands]))
  simp only[evalOp]
  cases hv:ρ a<;>try rfl
  rename_i id
  cases hs:ρ b<;>try rfl
  rename_i t d
  cases t<;>try rfl
  rename_i j
  cases j<;>try rfl
  dsimp only
  rw[mpp a (by simp[Op.operands]) id hv]
  simp only[hc]
 |insert T a b c=>
  have hb:=fun t=>Bg t (ρ b) (tm b (by simp[Op.operands]))
  have hc:=fun t=>Bg t (ρ c) (tm c (by simp[Op.operands]))
  simp only[evalOp]
  cases hu:P.underlying T with
  |none=>rfl
  |some d=>cases d with
   |map kt vt=>
    cases hv:ρ a<;>try rfl
    rename_i id
    dsimp only
    rw[mpp a (by simp[Op.operands]) id hv]
    simp only[hb,hc]
   |_=>rfl
 |convert S T x=>
  have hx:=fun t=>Bg t (ρ x) (tm x (by simp[Op.operands]))
  simp only[evalOp]
  split
  ·rfl
  ·simp only[hx]
 |call c=>
  obtain⟨callee,args,ts⟩:=c
  cases callee with
  |value f=>
   simp only[evalOp]
   cases hf:ρ f<;>try rfl
   ·rename_i g caps
    dsimp only
    refine hL.1 g (by simpa [GS,hf]using hl) R _ H H' fz fz' slot k ⟨fun id hid=>ha.heap id ?_,ha.slotH,ha.slotF,ha.len,fun id hid=>by cases hid⟩
    rw[Dg,ApR]at hid
    rcases hid with hid|hid
    ·have key:∀ l:List Operand,id∈BF (l.map ρ)→∃ x∈l,id∈Ay (ρ x):=by
      intro l
      induction l with
      |nil=>intro h;simp[BF]at h
      |cons y l ih=>
       intro h
       simp only[Ap2,BF,ApR]at h
       rcases h with h|h
       ·exact⟨y,by simp,h⟩
       ·obtain⟨x,h1,h2⟩:=ih h
        exact⟨x,by simp[h1],h2⟩
     obtain⟨x,h1,h2⟩:=key _ hid
     exact HT (x:=x) (by simp[Op.operands,Call.operands];right;simpa using h1) h2
    ·exact HT (x:=f) (by simp[Op.operands,Call.operands]) (by rw[hf];simpa [Ay]using hid)
   ·rename_i g caps
    dsimp only
    refine hL.1 g (by simpa [GS,hf]using hl) R _ H H' fz fz' slot k ⟨fun id hid=>ha.heap id ?_,ha.slotH,ha.slotF,ha.len,fun id hid=>by cases hid⟩
    rw[Dg,ApR]at hid
    rcases hid.symm with hid|hid
    ·have key:∀ l:List Operand,id∈BF (l.map ρ)→∃ x∈l,id∈Ay (ρ x):=by
      intro l
      induction l with
      |nil=>intro h;simp[BF]at h
      |cons y l ih=>
       intro h
       simp only[Ap2,BF,ApR]at h
       rcases h with h|h
       ·exact⟨y,by simp,h⟩
       ·obtain⟨x,h1,h2⟩:=ih h
        exact⟨x,by simp[h1],h2⟩
     obtain⟨x,h1,h2⟩:=key _ hid
     exact HT (x:=x) (by simp[Op.operands,Call.operands];right;simpa using h1) h2
    ·exact HT (x:=f) (by simp[Op.operands,Call.operands]) (by rw[hf];simpa [Ay]using hid)
  |invoke r n=>rfl
  |builtin b=>
   have ops:∀ x∈args.toList,x∈Op.operands (.call { callee:=.builtin b,args:=args,argTypes:=ts }):=fun x hx=>by simp[Op.operands,Call.operands];simpa using hx
   cases b with
   |len=>
    simp only[evalOp]
    cases h1:args.toList with
    |nil=>rfl
    |cons x r=>cases r with
     |cons y r=>rfl
     |nil=>
      have hx:=ops x (by rw[h1];simp)
      cases ts.toList with
      |nil=>rfl
      |cons T r=>cases r with
       |cons T' r=>rfl
       |nil=>
        dsimp only
        cases hu:P.underlying T with
        |none=>rfl
        |some d=>
         cases d with
         |slice e=>
          dsimp only
          cases hv:ρ x with
          |data t d=>cases t<;>rfl
          |own id=>dsimp only;rw[own x hx id hv]
          |win id off n=>simp only[Cl,win x hx id off n hv]
          |_=>rfl
         |map a b=>
          dsimp only
          cases hv:ρ x with
          |mp id=>dsimp only;rw[mpp x hx id hv]
          |_=>rfl
         |_=>rfl
   |append=>
    simp only[evalOp]
    cases h1:args.toList with
    |nil=>rfl
    |cons s r=>cases r with
     |nil=>rfl
     |cons x r=>cases r with
      |cons z r=>rfl
      |nil=>
       have hs:=ops s (by rw[h1];simp)
       have hx:=ops x (by rw[h1];simp)
       have hfree:=Ce ha (s:=slot) (ApY _) (by simp[slotsOf])
       cases ts.toList with
       |nil=>rfl
       |cons T r=>cases r with
        |nil=>rfl
        |cons T' r=>cases r with
         |cons T'' r=>rfl
         |nil=>
          dsimp only
          cases sliceAt P T with
          |none=>
           cases decide (T=T')with
           |false=>rfl
           |true=>
            dsimp only
            cases cellAt P T with
            |none=>rfl
            |some e=>
             cases hvx:ρ x<;>try rfl
             rename_i ix
             dsimp only
             rw[own x hx ix hvx]
             cases hvs:ρ s with
             |own id=>simp only[hfree,own s hs id hvs]
             |_=>simp only[hfree]
          |some p=>
           obtain⟨e,t⟩:=p
           cases decide (T=T')with
           |false=>
            dsimp only
            cases ρ s<;>try rfl
            cases ρ x with
            |data tx d=>
             cases tx with
             |int kx=>
              simp only[hfree]
             |_=>rfl
            |_=>rfl
           |true=>
            dsimp only
            rw[Bg (.slice t) (ρ x) (tm x hx)]
            cases FE H' (.slice t) (ρ x)with
            |none=>rfl
            |some q=>
             obtain⟨ys,fr⟩:=q
             cases zeroAt P e with
             |none=>rfl
             |some zz=>
              cases (P.info? e).map (fun i=>decide (i.bytes≤1024))with
              |none=>rfl
              |some bb=>cases bb with
               |false=>rfl
               |true=>
                dsimp only
                cases hv:ρ s<;>try rfl
                ·simp only[hfree]
                ·rename_i id
                 have hun:Ap fz id=Ap fz' id:=DL ha (by simp[Et,h1,hv,Ay]) []
                 dsimp only
                 rw[own s hs id hv]
                 simp only[hfree,hun]
                ·rename_i id off n
                 have hun:Ap fz id=Ap fz' id:=DL ha (by simp[Et,h1,hv,Ay]) []
                 cases off with
                 |succ off=>rfl
                 |zero=>simp only[win s hs id 0 n hv,hfree,hun]
                ·simp only[hfree]
   |clear=>
    simp only[evalOp]
    cases h1:args.toList with
    |nil=>rfl
    |cons x r=>cases r with
     |cons z r=>rfl
     |nil=>
      have hx:=ops x (by rw[h1];simp)
      cases ts.toList with
      |nil=>rfl
      |cons T r=>cases r with
       |cons T' r=>rfl
       |nil=>
        dsimp only
        cases sliceAt P T with
        |none=>rfl
        |some p=>
         obtain⟨e,t⟩:=p
         dsimp only
         cases zeroAt P e with
         |none=>rfl
         |some zz=>
          dsimp only
          cases hv:ρ x<;>try rfl
          ·rename_i id
           have hun:Ap fz id=Ap fz' id:=DL ha (by simp[Et,h1,hv,Ay]) []
           dsimp only
           rw[own x hx id hv]
           simp only[hun]
          ·rename_i id off n
           have hun:Ap fz id=Ap fz' id:=DL ha (by simp[Et,h1,hv,Ay]) []
           simp only[win x hx id off n hv,hun]
   |_=>rfl
 |makeFunc fn first cs=>cases fn<;>rfl
 |_=>rfl
theorem ANR{R:Type}(hL:Ir E){ρ:Operand→AV}(o:Op)(ty:TypeId){H H':List Ob}{fz fz':List Bool}{slot:Nat}(k:AV→Eff→Option R)
  (ha:TC (MF ρ o) slot (slotsOf o) (Et ρ o) H H' fz fz') (hl:GS E ρ o=true):evalOp P E R o ty ρ H fz slot k=evalOp P E R o ty ρ H' fz' slot k:=by
 cases o with
 |move x=>rfl
 |assign x=>rfl
 |pick c a b=>rfl
 |extract x i=>rfl
 |build T ps=>rfl
 |makeFunc f a b=>cases f<;>rfl
 |store T x y=>
  by_cases hp:∃ id off,ρ x = .ptr id off
  ·obtain⟨id,off,hx⟩:=hp
   have hid:=ha.heap id (by simp only[MF,hx];simp)
   simp only[evalOp,hx,hid]
  ·have e:MF ρ (.store T x y)=Gt ρ (.store T x y):=by
    simp only[MF]
    split
    ·rename_i id off hx;exact absurd ⟨id,off,hx⟩ hp
    ·rfl
   rw[e]at ha
   exact Oz hL (.store T x y) ty k ha hl
 |_=>exact Oz hL _ ty k ha hl
theorem AIO{l:List AV}{id:Nat}(h:id∈BF l):∃ v∈l,id∈Ay v:=by
 induction l with
 |nil=>simp[BF]at h
 |cons a l ih=>
  simp only[BF,ApR]at h
  rcases h with h|h
  ·exact⟨a,by simp,h⟩
  ·obtain⟨v,hv,hi⟩:=ih h;exact⟨v,by simp[hv],hi⟩
theorem CT{l:List AV}{v:AV}{id:Nat}(hv:v∈l)(h:id∈Ay v):id∈BF l:=by
 induction l with
 |nil=>cases hv
 |cons a l ih=>
  simp only[BF,ApR]
  rcases ApT.1 hv with rfl|hv
  ·exact .inl h
  ·exact .inr (ih hv)
theorem ATJ{R:Type}(hL:Ir E){ρ:Operand→AV}{φ:List Nat}(o:Op)(ty:TypeId){H H':List Ob}{fz fz':List Bool}{slot:Nat}(k:AV→Eff→Option R)(hw:MC E ρ o φ H=true)
  (ha:TC (φ.map (· / 2)) slot (slotsOf o) (φ.map (· / 2)) H H' fz fz'):evalOp P E R o ty ρ H fz slot k=evalOp P E R o ty ρ H' fz' slot k:=by
 unfold MC at hw
 simp only[ApU]at hw
 obtain⟨⟨⟨h1,h2⟩,h3⟩,h4⟩:=hw
 unfold VE at h4
 split at h4
 ·rename_i f args ts
  split at h4
  ·rename_i g caps hf
   simp only[evalOp,hf]
   have wtS:∀ {i:Nat},wt φ i=true→i∈φ.map (· / 2):=by
    intro i hi
    unfold wt at hi
    simp only[Aq6,ApQ]at hi
    exact Aph.2 ⟨_,hi,by omega⟩
   refine hL.2 g h4 R _ H H' fz fz' slot k (φ.map (· / 2)) (fun id hid => ?_) (fun id hid cs hc j hj => ?_) ⟨ha.heap,ha.slotH,ha.slotF,ha.len,ha.wrF⟩
   ·rw[Apt]at h1
    refine wtS (h1 id ?_)
    unfold Gt
    rw[ArT]
    obtain⟨v,hv,hi⟩:=AIO hid
    rcases ApR.1 hv with hv|hv
    ·obtain⟨x,hx,rfl⟩:=Aph.1 hv
     exact⟨x,by simp[Op.operands,Call.operands];right;simpa using hx,hi⟩
    ·exact⟨f,by simp[Op.operands,Call.operands],by rw[hf];simp only[Ay];exact CT hv hi⟩
   ·unfold OD at h2
    rw[Apt]at h2
    obtain⟨c,hcφ,rfl⟩:=Aph.1 hid
    have:=h2 c hcφ
    rw[hc]at this
    simp only[Apt]at this
    exact wtS (this j hj)
  ·rename_i g caps hf
   simp only[evalOp,hf]
   have wtS:∀ {i:Nat},wt φ i=true→i∈φ.map (· / 2):=by
    intro i hi
    unfold wt at hi
    simp only[Aq6,ApQ]at hi
    exact Aph.2 ⟨_,hi,by omega⟩
   refine hL.2 g h4 R _ H H' fz fz' slot k (φ.map (· / 2)) (fun id hid => ?_) (fun id hid cs hc j hj => ?_) ⟨ha.heap,ha.slotH,ha.slotF,ha.len,ha.wrF⟩
   ·rw[Apt]at h1
    refine wtS (h1 id ?_)
    unfold Gt
    rw[ArT]
    obtain⟨v,hv,hi⟩:=AIO hid
    rcases(ApR.1 hv).symm with hv|hv
    ·obtain⟨x,hx,rfl⟩:=Aph.1 hv
     exact⟨x,by simp[Op.operands,Call.operands];right;simpa using hx,hi⟩
    ·exact⟨f,by simp[Op.operands,Call.operands],by rw[hf];simp only[Ay];exact CT hv hi⟩
   ·unfold OD at h2
    rw[Apt]at h2
    obtain⟨c,hcφ,rfl⟩:=Aph.1 hid
    have:=h2 c hcφ
    rw[hc]at this
    simp only[Apt]at this
    exact wtS (this j hj)
  ·cases h4
 ·cases h4
end
end Go.Pev
end
section
namespace Go.Pev
open Go.RowKit
section
variable {P:Program} {E:Env}
def B5(all:List Oper)(g:Option (Nat×Bool))(st:St):Option Bool:=
 match g with
 |none=>some true
 |some (j,want)=>match(all[j]?).bind (·.dst)with
  |none=>none
  |some d=>match st.tmps[d]? with
   |some (.data .bool b)=>some (b==want)
   |some (.tup [])=>some false
   |_=>none
theorem ALN{l:List AV}{d:Nat}{v:AV}(h:l[d]? = some v):l.set d v=l:=by
 apply AqY
 intro i
 by_cases hid:i=d
 ·subst hid
  rw[h,ArO (by
   rcases AqV i l.length with h'|h'
   ·exact h'
   ·rw[Apm h']at h;cases h)]
 ·rw[AqU (AqH hid)]
theorem AM8{R:Type}{all:List Oper}{g:Option (Nat×Bool)}{st:St}{yes no:St→Option R}{r:R}(h:guarded R all g st yes no=some r):
  (B5 all g st=some true∧yes st=some r)∨(B5 all g st=some false∧no st=some r):=by
 unfold guarded at h
 unfold B5
 split at h
 ·exact .inl ⟨rfl,h⟩
 ·rename_i j want
  split at h
  ·cases h
  ·rename_i d hj
   simp only[hj]
   split at h
   ·rename_i b hd
    have hs:=ALN hd
    simp only[hd]
    split at h
    ·rw[hs]at h
     split at h
     ·exact .inl ⟨rfl,h⟩
     ·exact .inr ⟨rfl,h⟩
    ·rw[hs]at h
     split at h
     ·exact .inr ⟨rfl,h⟩
     ·exact .inl ⟨rfl,h⟩
   ·rename_i hd
    simp only[hd]
    exact .inr ⟨by first|rfl|trivial,h⟩
   ·cases h
def Kn(E:Env)(H:List Ob)(ρ:Operand→AV)(o:Op)(φ:List Nat):Prop:=(Yk φ=true∧MC E ρ o φ H=true)∨(within (MF ρ o) φ=true∧Qf (Et ρ o) φ=true∧GS E ρ o=true)
def CZ(P:Program)(E:Env)(all:List Oper)(o:Oper)(φ:List Nat)(slot:Nat)(st st1:St):Prop:=
 (B5 all o.guard st=some true∧∃ v e,(PL φ=true∨(Kn E st.heap (BL st.tmps) o.op φ∧AJJ (writer o.op||Yk φ) φ slot (slotsOf o.op) e=true)) ∧
  (∀ (R:Type) (k:AV→Eff→Option R),evalOp P E R o.op o.type (BL st.tmps) st.heap st.frz slot k=k v e)∧st1=(st.app e).put o.dst v) ∨
 (B5 all o.guard st=some false∧st1=st.put o.dst BJ)
theorem AVb(hE:∀ g,AO P g (E.spec g)){R:Type}{all:List Oper}{o:Oper}{φ:List Nat}{slot:Nat}{st:St}{k:St→Option R}{r:R}(h:XP P E R all o φ slot st k=some r):
  ∃ st1,CZ P E all o φ slot st st1∧k st1=some r:=by
 unfold XP at h
 rcases AM8 h with⟨hg,h⟩|⟨hg,h⟩
 ·split at h
  ·rename_i hw
   simp only[Aq5,ApU]at hw
   obtain⟨v,e,h1,h2,_⟩:=J0 hE o.op R _ _ _ _ _ _ _ h
   split at h1
   ·rename_i he
    rw[Aq5]at he
    refine⟨_,.inl ⟨hg,v,e,?_,h2,rfl⟩,h1⟩
    rcases hw with hw|hw
    ·exact .inl hw
    ·rcases he with he|he
     ·exact .inl he
     ·refine .inr ⟨?_,he⟩
      rcases hw with hw|hw
      ·exact .inl hw
      ·exact .inr ⟨hw.2.1.1,hw.2.1.2,hw.2.2⟩
   ·cases h1
  ·cases h
 ·exact⟨_,.inr ⟨hg,rfl⟩,h⟩
def AJ9(P:Program)(E:Env)(all:List Oper)(fp:Nat→List Nat)(sl:Nat→Nat):List Nat→St→St→Prop
 |[],st,st'=>st=st'
 |i::l,st,st'=>∃ o s1,all[i]? = some o∧CZ P E all o (fp i) (sl i) st s1∧AJ9 P E all fp sl l s1 st'
def Bx(all:List Oper)(base i:Nat):Nat:=base+Ez (all.take i)
theorem Kb(a b:List Oper):Ez (a++b)=Ez a+Ez b:=by
 unfold Ez
 induction a with
 |nil=>simp
 |cons x a ih=>simp only[Aps,Ap2,List.foldr_cons,ih];omega
theorem AGm(hE:∀ g,AO P g (E.spec g)){R:Type}{all:List Oper}{fp:List (List Nat)}{base:Nat}{k:St→Option R}{r:R}:∀ (rest pre:List Oper) (fp':List (List Nat)) (slot:Nat) (st:St),
  all=pre++rest→fp'=fp.drop pre.length→slot=Bx all base pre.length→IU P E R all rest fp' slot st k=some r →
  ∃ st',AJ9 P E all (fun i=>fp.getD i []) (Bx all base) (List.range' pre.length rest.length) st st'∧k st'=some r:=by
 intro rest
 induction rest with
 |nil=>intro pre fp' slot st _ _ _ h;exact⟨st,rfl,h⟩
 |cons o rest ih=>
  intro pre fp' slot st hall hfp hsl h
  simp only[IU]at h
  obtain⟨s1,h1,h2⟩:=AVb hE h
  have hlen:(pre++[o]).length=pre.length+1:=by simp
  have hfp1:fp'.headD []=fp.getD pre.length []:=by
   rw[hfp,ApP,List.headD_eq_head?_getD,List.head?_drop]
  have hfp2:fp'.tail=fp.drop (pre++[o]).length:=by rw[hfp,hlen,List.tail_drop]
  have hs2:slot+slotsOf o.op=Bx all base (pre++[o]).length:=by
   rw[hsl,hlen]
   unfold Bx
   have e1:all.take (pre.length+1)=pre++[o]:=by rw[hall,ArR,AqJ (by omega)];simp
   have e2:all.take pre.length=pre:=by rw[hall];simp
   rw[e1,e2,Kb]
   simp[Ez];omega
  obtain⟨st',h3,h4⟩:=ih (pre++[o]) _ _ s1 (by rw[hall];simp) hfp2 hs2 h2
  refine⟨st',?_,h4⟩
  rw[ApW,List.range'_succ]
  refine⟨o,s1,by rw[hall];simp,?_,by rw[hlen]at h3;exact h3⟩
  show CZ P E all o (fp.getD pre.length []) (Bx all base pre.length) st s1
  rw[← hfp1,← hsl];exact h1
theorem XR:∀ (l:List (Nat×Ob)) (H:List Ob),(A5 l H).length=H.length:=by
 intro l
 induction l with
 |nil=>intro H;rfl
 |cons p l ih=>intro H;obtain⟨i,o⟩:=p;simp only[A5];rw[ih,Aqb]
theorem BR{i:Nat}:∀ (l:List (Nat×Ob)) (H:List Ob),(∀ p∈l,p.1≠i)→(A5 l H)[i]? = H[i]? := by
 intro l
 induction l with
 |nil=>intro H _;rfl
 |cons p l ih=>
  intro H h
  obtain⟨j,o⟩:=p
  simp only[A5]
  rw[ih _ fun p hp=>h p (by simp[hp]),A1 (AqH (h (j,o) (by simp)))]
theorem GN{i:Nat}:∀ (l:List (Nat×Ob)) (H H':List Ob),H[i]? = H'[i]?→(A5 l H)[i]? = (A5 l H')[i]? := by
 intro l
 induction l with
 |nil=>intro H H' h;exact h
 |cons p l ih=>
  intro H H' h
  obtain⟨j,o⟩:=p
  simp only[A5]
  refine ih _ _ ?_
  by_cases hij:i=j
  ·subst hij
   rw[List.getElem?_set_self',List.getElem?_set_self',h]
  ·rw[A1 hij,A1 hij];exact h
theorem ALO(a b:List (Nat×Ob))(h:∀ p∈a,∀ q∈b,p.1≠q.1)(H:List Ob):A5 a (A5 b H)=A5 b (A5 a H):=by
 apply AqY
 intro i
 by_cases ha:∀ p∈a,p.1≠i
 ·rw[BR a _ ha]
  exact GN b _ _ (BR a _ ha).symm
 ·have hb:∀ q∈b,q.1≠i:=by
   intro q hq hqi
   refine ha fun p hp hpi=>h p hp q hq (by rw[hpi,hqi])
  rw[BR b _ hb]
  exact GN a _ _ (BR b _ hb)
theorem AQJ(a b:List Nat)(fz:List Bool):Al a (Al b fz)=Al b (Al a fz):=by
 apply AqY
 intro i
 have hl:∀ (x:List Bool) (y:List Bool),x.length=y.length→(∀ i,x.getD i false=y.getD i false)→x[i]? = y[i]? := by
  intro x y hlen hg
  have:=hg i
  rw[ApP,ApP]at this
  rcases AqV i x.length with h|h
  ·rw[ApO h,ApO (hlen▸h)]at this ⊢
   simpa using this
  ·rw[Apm h,Apm (hlen▸h)]
 refine hl _ _ (by simp[Ct]) fun i => ?_
 rw[A2,A2,A2,A2,Ct,Ct]
 cases fz.getD i false<;>cases decide (i∈a)<;>cases decide (i∈b)<;>cases decide (i<fz.length)<;>rfl
theorem Z8{l φ:List Nat}(h:within l φ=true){i:Nat}(hi:i∈l):rd φ i=true:=by
 unfold within at h
 rw[Apt]at h
 exact h i hi
theorem APM{l φ:List Nat}(h:Qf l φ=true){i:Nat}(hi:i∈l):wt φ i=true:=by
 unfold Qf at h
 rw[Apt]at h
 exact h i hi
theorem Jf{φ:List Nat}{i:Nat}(h:wt φ i=true):rd φ i=true:=by
 unfold wt at h;unfold rd;rw[h];simp
theorem LG{wr:Bool}{φ:List Nat}{slot n:Nat}{e:Eff}(h:AJJ wr φ slot n e=true):e.heap=none∧(∀ p∈e.objs,(slot≤p.1∧p.1<slot+n)∨(wr=true∧wt φ p.1=true))∧∀ i∈e.frz,rd φ i=true:=by
 unfold AJJ at h
 simp only[ApU]at h
 obtain⟨⟨h1,h2⟩,h3⟩:=h
 refine⟨by simpa using h1,fun p hp => ?_,fun i hi=>Z8 h3 hi⟩
 rw[Apt]at h2
 have:=h2 p hp
 simp only[Aq5,ApU,ApQ]at this
 rcases this with h|h
 ·exact .inl h
 ·exact .inr h
theorem CH{e:Eff}(h:e.heap=none)(H:List Ob):Ck e H=A5 e.objs H:=by unfold Ck;rw[h]
theorem CS{e:Eff}(h:e.heap=none)(F:List Bool):GC e F=Al e.frz F:=by unfold GC;rw[h]
theorem Bt{all:List Oper}{x y:Oper}(hap:apart? all x y=true)(st:St)(v:AV):∀ z∈y.op.operands,BL (st.put x.dst v).tmps z=BL st.tmps z:=by
 obtain⟨h1,_,_⟩:=Oper.apart_spec hap
 intro z hz
 cases hd:x.dst with
 |none=>rfl
 |some d=>
  cases z with
  |tmp t=>
   have hne:d≠t:=by
    rintro rfl
    refine h1 d hd ?_
    unfold Oper.looksAt
    refine List.mem_append_left _ ?_
    rw[List.mem_filterMap]
    exact⟨.tmp d,by simpa using hz,rfl⟩
   simp[BL,St.put,AqU hne]
  |const v=>rfl
  |global g=>rfl
  |func f=>rfl
theorem Gd{all:List Oper}{x y:Oper}(hap:apart? all x y=true)(st:St)(v:AV)(H:List Ob)(F:List Bool):B5 all y.guard ({ st with heap:=H,frz:=F }.put x.dst v)=B5 all y.guard st:=by
 obtain⟨h1,_,_⟩:=Oper.apart_spec hap
 unfold B5
 cases hg:y.guard with
 |none=>rfl
 |some p=>
  obtain⟨j,want⟩:=p
  dsimp only
  cases hj:(all[j]?).bind (·.dst)with
  |none=>rfl
  |some d=>
   dsimp only
   cases hd:x.dst with
   |none=>rfl
   |some d'=>
    have hne:d'≠d:=by
     rintro rfl
     refine h1 d' hd ?_
     unfold Oper.looksAt
     refine List.mem_append_right _ ?_
     simp[hg]
     exact hj
    simp[St.put,AqU hne]
theorem St.put_comm(st:St){x y:Option Tmp}(v u:AV)(h:∀ d,x=some d→y≠some d):(st.put x v).put y u=(st.put y u).put x v:=by
 cases x with
 |none=>rfl
 |some d=>
  cases y with
  |none=>rfl
  |some d'=>
   have hne:d≠d':=fun e=>h d rfl (e▸rfl)
   simp only[St.put]
   rw[List.set_comm _ _ hne]
theorem St.LS(st:St)(e:Eff)(d:Option Tmp)(v:AV):(st.put d v).app e=(st.app e).put d v:=by cases d<;>rfl
theorem Ahr{φ:List Nat}{i:Nat}(h:rd φ i=true):∃ c∈φ,c/2=i:=by
 unfold rd at h
 simp only[Aq5,Aq6,ApQ]at h
 rcases h with h|h
 ·exact⟨_,h,by omega⟩
 ·exact⟨_,h,by omega⟩
theorem ASd{all:List Oper}{x y:Oper}{φx φy:List Nat}{sx sy:Nat}(h:indep all x y φx φy sx sy=true):
  apart? all x y=true∧((Yk φx=false∧Yk φy=false∧ZY x.op y.op=true)∨(PL φx=true∧Bi y.op=true)∨(PL φy=true∧Bi x.op=true)∨PL φx=false∧PL φy=false∧(∀ i,rd φy i=true→¬ (sx≤i∧i<sx+slotsOf x.op))∧(∀ i,rd φx i=true→¬ (sy≤i∧i<sy+slotsOf y.op))∧(∀ i,wt φx i=true→rd φy i=true→False)∧(∀ i,wt φy i=true→rd φx i=true→False)):=by
 unfold indep at h
 rw[ApU]at h
 obtain⟨h1,h⟩:=h
 refine⟨h1,?_⟩
 simp only[Aq5,ApU,Aq8]at h
 rcases h with((h|h)|h)|h
 ·exact .inr (.inl h)
 ·exact .inr (.inr (.inl h))
 rotate_left
 ·exact .inl ⟨h.1,h.2.1,h.2.2⟩
 obtain⟨⟨⟨⟨⟨hx,hy⟩,h2⟩,h3⟩,h4⟩,h5⟩:=h
 refine .inr (.inr (.inr ⟨hx,hy,?_⟩))
 rw[Apt]at h2 h3 h4 h5
 have own:∀ {φ:List Nat} {s n:Nat},(∀ c∈φ,(!(decide (s≤c/2)&&decide (c/2<s+n)))=true)→∀ i,rd φ i=true→¬ (s≤i∧i<s+n):=by
  intro φ s n h i hi
  obtain⟨c,hc,rfl⟩:=Ahr hi
  have:=h c hc
  simp at this
  omega
 have wr:∀ {φ ψ:List Nat},(∀ c∈φ,(decide (c % 2=0) || !(rd ψ (c/2)))=true)→∀ i,wt φ i=true→rd ψ i=true→False:=by
  intro φ ψ h i hi hr
  unfold wt at hi
  simp only[Aq6,ApQ]at hi
  have:=h _ hi
  have e1:(2*i+1) % 2=1:=by omega
  have e2:(2*i+1)/2=i:=by omega
  rw[e1,e2,hr]at this
  simp at this
 exact⟨own h2,own h3,wr h4,wr h5⟩
theorem LU{all:List Oper}{x y:Oper}(h:apart? all x y=true):apart? all y x=true:=by
 obtain⟨h1,h2,h3⟩:=Oper.apart_spec h
 unfold apart? Oper.apart
 rw[ApU]
 constructor
 ·cases hy:y.dst with
  |none=>rfl
  |some d=>
   have a:=h3 d hy
   have b:x.dst≠some d:=fun e=>h2 d e hy
   simp[a,b]
 ·cases hx:x.dst with
  |none=>rfl
  |some d=>simpa using h1 d hx
theorem AHY{φ:List Nat}{H H':List Ob}(h:∀ i,rd φ i=true→H[i]? = H'[i]?):OD φ H=OD φ H':=by
 unfold OD
 rw[Aqo,Apt,Apt]
 have e:∀ c∈φ,H[c/2]? = H'[c/2]? := by
  intro c hc
  refine h _ ?_
  unfold rd
  simp only[Aq5,Aq6,ApQ]
  rcases Nat.mod_two_eq_zero_or_one c with h'|h'
  ·left;rw[show 2*(c/2)=c from by omega];exact hc
  ·right;rw[show 2*(c/2)+1=c from by omega];exact hc
 constructor<;>intro hh c hc
 ·rw[← e c hc];exact hh c hc
 ·rw[e c hc];exact hh c hc
theorem AOr{ρ:Operand→AV}{o:Op}{φ:List Nat}{H H':List Ob}(h:∀ i,rd φ i=true→H[i]? = H'[i]?)(hk:Kn E H ρ o φ):Kn E H' ρ o φ:=by
 rcases hk with⟨h1,h2⟩|hk
 ·refine .inl ⟨h1,?_⟩
  unfold MC at *
  rw[← AHY h];exact h2
 ·exact .inr hk
theorem AI3{x:Oper}{φx φy:List Nat}{sx:Nat}(h1:∀ i,rd φy i=true→¬ (sx≤i∧i<sx+slotsOf x.op))(h3:∀ i,wt φx i=true→rd φy i=true→False){st:St}{vx:AV}{ex:Eff}{bx:Bool}(hex:AJJ bx φx sx (slotsOf x.op) ex=true):
  ∀ i,rd φy i=true→((st.app ex).put x.dst vx).heap[i]? = st.heap[i]? := by
 intro i hi
 obtain⟨q1,q2,q3⟩:=LG hex
 have hheap:((st.app ex).put x.dst vx).heap=A5 ex.objs st.heap:=by cases x.dst<;>exact CH q1 _
 rw[hheap]
 refine BR _ _ fun p hp => ?_
 rintro rfl
 rcases q2 p hp with h|⟨_,h⟩
 ·exact h1 _ hi h
 ·exact h3 _ h hi
theorem AH1(hL:Ir E){all:List Oper}{x y:Oper}{φx φy:List Nat}{sx sy:Nat}(hap:apart? all x y=true)(h1:∀ i,rd φy i=true→¬ (sx≤i∧i<sx+slotsOf x.op))
  (h2:∀ i,rd φx i=true→¬ (sy≤i∧i<sy+slotsOf y.op)) (h3:∀ i,wt φx i=true→rd φy i=true→False) (h4:∀ i,wt φy i=true→rd φx i=true→False) (hsl:sx+slotsOf x.op≤sy∨sy+slotsOf y.op≤sx)
  {st:St} {vx:AV} {ex:Eff} {bx:Bool} (hex:AJJ bx φx sx (slotsOf x.op) ex=true) (hk:Kn E ((st.app ex).put x.dst vx).heap (BL st.tmps) y.op φy∨Kn E st.heap (BL st.tmps) y.op φy) :
  ∀ (R:Type) (k:AV→Eff→Option R),evalOp P E R y.op y.type (BL ((st.app ex).put x.dst vx).tmps) ((st.app ex).put x.dst vx).heap ((st.app ex).put x.dst vx).frz sy k=evalOp P E R y.op y.type (BL st.tmps) st.heap st.frz sy k:=by
 intro R k
 obtain⟨q1,q2,q3⟩:=LG hex
 have hput:∀ z∈y.op.operands,BL ((st.app ex).put x.dst vx).tmps z=BL st.tmps z:=fun z hz=>by
  have:=Bt hap (st.app ex) vx z hz
  exact this
 have hheap:((st.app ex).put x.dst vx).heap=A5 ex.objs st.heap:=by cases x.dst<;>exact CH q1 _
 have hfrz:((st.app ex).put x.dst vx).frz=Al ex.frz st.frz:=by cases x.dst<;>exact CS q1 _
 rw[hheap]at hk
 rw[hheap,hfrz]
 have hsame:∀ i,rd φy i=true→(A5 ex.objs st.heap)[i]? = st.heap[i]? := by
  intro i hi
  refine BR _ _ fun p hp => ?_
  rintro rfl
  rcases q2 p hp with h|⟨_,h⟩
  ·exact h1 _ hi h
  ·exact h3 _ h hi
 have hkn:Kn E st.heap (BL st.tmps) y.op φy:=hk.elim (fun h=>AOr hsame h) fun h=>h
 rcases hkn with⟨_,hw⟩|⟨hw,hww,hl⟩
 ·rw[Bo y.op y.type _ _ sy k hput]
  symm
  have wtS:∀ c∈φy,wt φy (c/2)=true:=by
   intro c hc
   unfold MC at hw
   simp only[ApU]at hw
   have:=hw.1.2
   rw[Apt]at this
   have:=this c hc
   simp only[ArE]at this
   unfold wt
   simp only[Aq6,ApQ]
   rw[show 2*(c/2)+1=c from by omega]
   exact hc
  refine ATJ hL y.op y.type k hw ⟨fun id hid => ?_,fun s a1 a2 => ?_,fun s a1 a2 => ?_,(Ct _ _).symm,fun id hid => ?_⟩
  ·obtain⟨c,hc,rfl⟩:=Aph.1 hid
   exact(hsame _ (Jf (wtS c hc))).symm
  ·symm
   refine BR _ _ fun p hp => ?_
   rintro rfl
   rcases q2 p hp with h|⟨hwx,h⟩
   ·omega
   ·exact h2 _ (Jf h) ⟨a1,a2⟩
  ·rw[A2]
   have:s∉ex.frz:=fun h=>h2 _ (q3 s h) ⟨a1,a2⟩
   simp[this]
  ·obtain⟨c,hc,rfl⟩:=Aph.1 hid
   rw[A2]
   have:c/2∉ex.frz:=fun h=>h4 _ (wtS c hc) (q3 _ h)
   simp[this]
 have hag:TC (MF (BL st.tmps) y.op) sy (slotsOf y.op) (Et (BL st.tmps) y.op) (A5 ex.objs st.heap) st.heap (Al ex.frz st.frz) st.frz:=by
  refine⟨fun id hid => ?_,fun s a1 a2 => ?_,fun s a1 a2 => ?_,Ct _ _,fun id hid => ?_⟩
  ·have hφ:=Z8 hw hid
   refine BR _ _ fun p hp => ?_
   rintro rfl
   rcases q2 p hp with h|⟨hwx,h⟩
   ·exact h1 _ hφ h
   ·exact h3 _ h hφ
  ·refine BR _ _ fun p hp => ?_
   rintro rfl
   rcases q2 p hp with h|⟨hwx,h⟩
   ·omega
   ·exact h2 _ (Jf h) ⟨a1,a2⟩
  ·rw[A2]
   have:s∉ex.frz:=fun h=>h2 _ (q3 s h) ⟨a1,a2⟩
   simp[this]
  ·rw[A2]
   have hφ:=APM hww hid
   have:id∉ex.frz:=fun h=>h4 _ hφ (q3 id h)
   simp[this]
 rw[Bo y.op y.type _ _ sy k hput]
 exact ANR hL y.op y.type k hag hl
theorem AKZ{ρ ρ':Operand→AV}{o:Op}(h:∀ z∈o.operands,ρ z=ρ' z):Et ρ o=Et ρ' o:=by
 unfold Et
 split
 ·rw[h _ (by simp[Op.operands])]
 ·rw[h _ (by simp[Op.operands])]
 ·rw[h _ (by simp[Op.operands])]
 ·rw[h _ (by simp[Op.operands])]
 ·rw[h _ (by simp[Op.operands])]
 ·rename_i args ts
  cases ha:args.toList with
  |nil=>rfl
  |cons s r=>
   have:s∈args:=by
    have:s∈args.toList:=by rw[ha];simp
    simpa using this
   simp only
   rw[h s (by simp[Op.operands,Call.operands];exact this)]
 ·rename_i args ts
  cases ha:args.toList with
  |nil=>rfl
  |cons s r=>
   have:s∈args:=by
    have:s∈args.toList:=by rw[ha];simp
    simpa using this
   simp only
   rw[h s (by simp[Op.operands,Call.operands];exact this)]
 ·rfl
theorem KO{ρ ρ':Operand→AV}{o:Op}(h:∀ z∈o.operands,ρ z=ρ' z):Gt ρ o=Gt ρ' o:=by
 unfold Gt
 have key:∀ l:List Operand,(∀ z∈l,ρ z=ρ' z)→(l.flatMap fun x=>Ay (ρ x))=l.flatMap fun x=>Ay (ρ' x):=by
  intro l
  induction l with
  |nil=>intro _;rfl
  |cons x l ih=>intro h;rw[Ap7,Ap7,h x (by simp),ih fun z hz=>h z (by simp[hz])]
 exact key _ fun z hz=>h z (by simpa using hz)
theorem APf{ρ ρ':Operand→AV}{o:Op}(h:∀ z∈o.operands,ρ z=ρ' z):MF ρ o=MF ρ' o:=by
 cases o with
 |store T x y=>
  simp only[MF]
  rw[h x (by simp[Op.operands]),KO h]
 |move x=>rfl
 |assign x=>rfl
 |pick c a b=>rfl
 |extract x i=>rfl
 |build T ps=>rfl
 |makeFunc f a b=>rfl
 |_=>exact KO h
theorem AG2{ρ ρ':Operand→AV}{o:Op}(h:∀ z∈o.operands,ρ z=ρ' z):GS E ρ o=GS E ρ' o:=by
 unfold GS
 split
 ·rename_i f args ts
  rw[h f (by simp[Op.operands,Call.operands])]
 ·rfl
theorem Gp{H:List Ob}{ρ ρ':Operand→AV}{o:Op}{φ:List Nat}(h:∀ z∈o.operands,ρ z=ρ' z)(hk:Kn E H ρ o φ):Kn E H ρ' o φ:=by
 rcases hk with⟨h0,hk⟩|⟨h1,h2,h3⟩
 ·refine .inl ⟨h0,?_⟩
  have e:VE E ρ o=VE E ρ' o:=by
   unfold VE
   split
   ·rename_i f args ts
    rw[h f (by simp[Op.operands,Call.operands])]
   ·rfl
  unfold MC at *
  rw[← e,← KO h];exact hk
 ·rw[APf h]at h1
  rw[AKZ h]at h2
  rw[AG2 h]at h3
  exact .inr ⟨h1,h2,h3⟩
theorem Ox{R:Type}{o:Op}(h:Bi o=true)(ty:TypeId)(ρ:Operand→AV)(H H':List Ob)(fz fz':List Bool)(slot:Nat)(k:AV→Eff→Option R):
  evalOp P E R o ty ρ H fz slot k=evalOp P E R o ty ρ H' fz' slot k:=by
 cases o<;>first|rfl|(simp only[Bi,Apc]at h)
theorem K7{o:Op}(h:Bi o=true)(ty:TypeId)(ρ:Operand→AV)(H:List Ob)(fz:List Bool)(slot:Nat){v:AV}{e:Eff}
  (hk:∀ (R:Type) (k:AV→Eff→Option R),evalOp P E R o ty ρ H fz slot k=k v e):e = {}:=by
 have:=hk Eff (fun _ e=>some e)
 cases o<;>first|(simp only[Bi,Apc]at h;done)|skip
 all_goals
  simp only[evalOp]at this
  repeat' split at this
  all_goals first|(cases this;done)|(simp only[ApN]at this;exact this.symm)
theorem AEK{o:Op}(h:F5 o=true)(ty:TypeId)(ρ:Operand→AV)(H:List Ob)(fz:List Bool)(slot:Nat){v:AV}{e:Eff}
  (hk:∀ (R:Type) (k:AV→Eff→Option R),evalOp P E R o ty ρ H fz slot k=k v e):e = {}:=by
 by_cases hh:Bi o=true
 ·exact K7 hh ty ρ H fz slot hk
 have:=hk Eff (fun _ e=>some e)
 cases o with
 |call c=>
  obtain⟨callee,args,ts⟩:=c
  cases callee with
  |builtin b=>
   cases b<;>first|(simp only[F5,Bi,Apc]at h;done)|skip
   simp only[evalOp]at this
   repeat' split at this
   all_goals first|(cases this;done)|(simp only[ApN]at this;exact this.symm)
  |_=>simp only[F5,Bi,Apc]at h
 |slice T x lo hi mx=>
  cases mx with
  |some m=>simp only[F5,Bi,Apc]at h
  |none=>
   simp only[evalOp,GL]at this
   repeat' split at this
   all_goals first|(cases this;done)|(simp only[ApN]at this;exact this.symm)
 |makeFunc fn first cs=>
  cases fn<;>first|(simp only[F5,Bi,Apc]at h;done)|skip
  simp only[evalOp]at this
  repeat' split at this
  all_goals first|(cases this;done)|(simp only[ApN]at this;exact this.symm)
 |load _ _|convert _ _ _|fieldAddr _ _ _|field _ _ _|indexAddr _ _ _|index _ _ _|nilCheck _|lookup _ _ _ _|build _ _=>
  simp only[evalOp]at this
  repeat' split at this
  all_goals first|(cases this;done)|(simp only[ApN]at this;exact this.symm)
 |_=>first|exact absurd h hh|(simp only[F5,Bi,Apc]at h;done)|exact absurd rfl hh
theorem Abo{H:List Ob}{ρ:Operand→AV}{o:Op}{φ:List Nat}(h:Bi o=true)(hk:Kn E H ρ o φ):within (MF ρ o) φ=true∧Qf (Et ρ o) φ=true∧GS E ρ o=true:=by
 rcases hk with⟨_,hk⟩|hk
 ·exfalso
  unfold MC at hk
  simp only[ApU]at hk
  have:=hk.2
  unfold VE at this
  split at this
  ·cases h
  ·cases this
 ·exact hk
theorem AVZ{all:List Oper}{x y:Oper}{φx φy:List Nat}{sx sy:Nat}(hap:apart? all x y=true)(hn:PL φx=true)(hl:Bi y.op=true)
  {st s1 s2:St} (hx:CZ P E all x φx sx st s1) (hy:CZ P E all y φy sy s1 s2):∃ s1',CZ P E all y φy sy st s1'∧CZ P E all x φx sx s1' s2:=by
 have hap':=LU hap
 obtain⟨_,hdd,_⟩:=Oper.apart_spec hap
 have gx:∀ (v:AV) (H:List Ob) (F:List Bool) (s:St),B5 all y.guard ({ s with heap:=H,frz:=F }.put x.dst v)=B5 all y.guard s:=fun v H F s=>Gd hap s v H F
 have gy:∀ (v:AV) (H:List Ob) (F:List Bool) (s:St),B5 all x.guard ({ s with heap:=H,frz:=F }.put y.dst v)=B5 all x.guard s:=fun v H F s=>Gd hap' s v H F
 have first:∀ (s1:St),(∀ z∈y.op.operands,BL s1.tmps z=BL st.tmps z)→B5 all y.guard s1=B5 all y.guard st→CZ P E all y φy sy s1 s2→∃ vy,CZ P E all y φy sy st (st.put y.dst vy)∧s2=s1.put y.dst vy:=by
  intro s1 hput hg hy
  rcases hy with⟨g2,vy,ey,hqy,b3,rfl⟩|⟨g2,rfl⟩
  ·have he:=K7 hl _ _ _ _ _ b3
   subst he
   refine⟨vy,.inl ⟨by rw[← hg];exact g2,vy,{},?_,fun R k => ?_,rfl⟩,rfl⟩
   ·rcases hqy with h|⟨h1,h4⟩
    ·exact .inl h
    ·exact .inr ⟨.inr (Abo hl (Gp hput h1)),h4⟩
   ·rw[← b3 R k,Bo y.op y.type _ _ sy k hput]
    exact Ox hl _ _ _ _ _ _ _ _
  ·exact⟨BJ,.inr ⟨by rw[← hg];exact g2,rfl⟩,rfl⟩
 have put1:∀ (v:AV) (s:St),∀ z∈y.op.operands,BL (s.put x.dst v).tmps z=BL s.tmps z:=fun v s z hz=>Bt hap s v z hz
 rcases hx with⟨g1,vx,ex,hqx,a3,rfl⟩|⟨g1,rfl⟩
 ·obtain⟨vy,h1,rfl⟩:=first _ (put1 vx (st.app ex)) (gx vx (Ck ex st.heap) (GC ex st.frz) st) hy
  refine⟨_,h1,.inl ⟨?_,vx,ex,.inl hn,fun R k => ?_,?_⟩⟩
  ·rw[show B5 all x.guard (st.put y.dst vy)=B5 all x.guard st from gy vy st.heap st.frz st];exact g1
  ·have hh:(st.put y.dst vy).heap=st.heap∧(st.put y.dst vy).frz=st.frz:=by cases y.dst<;>exact⟨rfl,rfl⟩
   rw[hh.1,hh.2,Bo x.op x.type _ _ sx k fun z hz=>Bt hap' st vy z hz]
   exact a3 R k
  ·rw[St.LS,St.put_comm _ vx vy hdd]
 ·obtain⟨vy,h1,rfl⟩:=first _ (put1 BJ st) (gx BJ st.heap st.frz st) hy
  refine⟨_,h1,.inr ⟨?_,?_⟩⟩
  ·rw[show B5 all x.guard (st.put y.dst vy)=B5 all x.guard st from gy vy st.heap st.frz st];exact g1
  ·rw[St.put_comm _ BJ vy hdd]
theorem AVY{all:List Oper}{x y:Oper}{φx φy:List Nat}{sx sy:Nat}(hap:apart? all x y=true)(hn:PL φy=true)(hl:Bi x.op=true)
  {st s1 s2:St} (hx:CZ P E all x φx sx st s1) (hy:CZ P E all y φy sy s1 s2):∃ s1',CZ P E all y φy sy st s1'∧CZ P E all x φx sx s1' s2:=by
 have hap':=LU hap
 obtain⟨_,hdd,_⟩:=Oper.apart_spec hap
 have gx:∀ (v:AV) (s:St),B5 all y.guard (s.put x.dst v)=B5 all y.guard s:=fun v s=>Gd hap s v s.heap s.frz
 have gy:∀ (v:AV) (H:List Ob) (F:List Bool) (s:St),B5 all x.guard ({ s with heap:=H,frz:=F }.put y.dst v)=B5 all x.guard s:=fun v H F s=>Gd hap' s v H F
 have hh:∀ v:AV,(st.put x.dst v).heap=st.heap∧(st.put x.dst v).frz=st.frz:=fun v=>by cases x.dst<;>exact⟨rfl,rfl⟩
 have behind:∀ (s:St) (vx:AV),(∀ z∈x.op.operands,BL s.tmps z=BL st.tmps z)→B5 all x.guard s=B5 all x.guard st→CZ P E all x φx sx st (st.put x.dst vx)→(∃ v,CZ P E all x φx sx st (st.put x.dst v)):=fun s vx _ _ h=>⟨vx,h⟩
 have xs:∃ vx,s1=st.put x.dst vx∧∀ s:St,(∀ z∈x.op.operands,BL s.tmps z=BL st.tmps z)→B5 all x.guard s=B5 all x.guard st→CZ P E all x φx sx s (s.put x.dst vx):=by
  rcases hx with⟨g1,vx,ex,hqx,a3,rfl⟩|⟨g1,rfl⟩
  ·have he:=K7 hl _ _ _ _ _ a3
   subst he
   refine⟨vx,rfl,fun s hput hg=>.inl ⟨by rw[hg];exact g1,vx,{},?_,fun R k => ?_,rfl⟩⟩
   ·rcases hqx with h|⟨h1,h4⟩
    ·exact .inl h
    ·exact .inr ⟨.inr (Abo hl (Gp (fun z hz=>(hput z hz).symm) h1)),h4⟩
   ·rw[← a3 R k,Bo x.op x.type _ _ sx k hput]
    exact Ox hl _ _ _ _ _ _ _ _
  ·exact⟨BJ,rfl,fun s _ hg=>.inr ⟨by rw[hg];exact g1,rfl⟩⟩
 obtain⟨vx,rfl,hxs⟩:=xs
 have hput:∀ z∈y.op.operands,BL (st.put x.dst vx).tmps z=BL st.tmps z:=fun z hz=>Bt hap st vx z hz
 rcases hy with⟨g2,vy,ey,hqy,b3,rfl⟩|⟨g2,rfl⟩
 ·refine⟨(st.app ey).put y.dst vy,.inl ⟨by rw[← gx vx st];exact g2,vy,ey,.inl hn,fun R k => ?_,rfl⟩,?_⟩
  ·have:=b3 R k
   rw[(hh vx).1,(hh vx).2,Bo y.op y.type _ _ sy k hput]at this
   exact this
  ·have:=hxs ((st.app ey).put y.dst vy) (fun z hz=>Bt hap' (st.app ey) vy z hz) (gy vy (Ck ey st.heap) (GC ey st.frz) st)
   rw[St.LS,St.put_comm _ vx vy hdd]
   exact this
 ·refine⟨st.put y.dst BJ,.inr ⟨by rw[← gx vx st];exact g2,rfl⟩,?_⟩
  have:=hxs (st.put y.dst BJ) (fun z hz=>Bt hap' st BJ z hz) (gy BJ st.heap st.frz st)
  rw[St.put_comm _ vx BJ hdd]
  exact this
theorem AVa(hL:Ir E){all:List Oper}{x y:Oper}{φx φy:List Nat}{sx sy:Nat}(hap:apart? all x y=true)(n1:PL φx=false)(n2:PL φy=false)(i1:∀ i,rd φy i=true→¬ (sx≤i∧i<sx+slotsOf x.op))(i2:∀ i,rd φx i=true→¬ (sy≤i∧i<sy+slotsOf y.op))(i3:∀ i,wt φx i=true→rd φy i=true→False)(i4:∀ i,wt φy i=true→rd φx i=true→False)(hsl:sx+slotsOf x.op≤sy)
  {st s1 s2:St} (hx:CZ P E all x φx sx st s1) (hy:CZ P E all y φy sy s1 s2):∃ s1',CZ P E all y φy sy st s1'∧CZ P E all x φx sx s1' s2:=by
 have hap':=LU hap
 obtain⟨_,hdd,_⟩:=Oper.apart_spec hap
 have gx:∀ (v:AV) (H:List Ob) (F:List Bool) (s:St),B5 all y.guard ({ s with heap:=H,frz:=F }.put x.dst v)=B5 all y.guard s:=fun v H F s=>Gd hap s v H F
 have gy:∀ (v:AV) (H:List Ob) (F:List Bool) (s:St),B5 all x.guard ({ s with heap:=H,frz:=F }.put y.dst v)=B5 all x.guard s:=fun v H F s=>Gd hap' s v H F
 have gxa:∀ v e,B5 all y.guard ((st.app e).put x.dst v)=B5 all y.guard st:=fun v e=>gx v (Ck e st.heap) (GC e st.frz) st
 have gya:∀ v e,B5 all x.guard ((st.app e).put y.dst v)=B5 all x.guard st:=fun v e=>gy v (Ck e st.heap) (GC e st.frz) st
 rcases hx with⟨g1,vx,ex,hqx,a3,rfl⟩|⟨g1,rfl⟩
 ·obtain⟨a1,a4⟩:=hqx.resolve_left (by rw[n1];simp)
  rcases hy with⟨g2,vy,ey,hqy,b3,rfl⟩|⟨g2,rfl⟩
  ·obtain⟨b1,b4⟩:=hqy.resolve_left (by rw[n2];simp)
   have hput:∀ z∈y.op.operands,BL ((st.app ex).put x.dst vx).tmps z=BL st.tmps z:=fun z hz=>Bt hap (st.app ex) vx z hz
   have b1:=Gp hput b1
   have ov:=AH1 (P:=P) hL hap i1 i2 i3 i4 (.inl hsl) (vx:=vx) a4 (.inl b1)
   refine⟨(st.app ey).put y.dst vy,.inl ⟨by rw[← gxa vx ex];exact g2,vy,ey,.inr ⟨AOr (AI3 i1 i3 a4) b1,b4⟩,fun R k=>by rw[← ov R k];exact b3 R k,rfl⟩,?_⟩
   have hput':∀ z∈x.op.operands,BL ((st.app ey).put y.dst vy).tmps z=BL st.tmps z:=fun z hz=>Bt hap' (st.app ey) vy z hz
   have ov':=AH1 (P:=P) hL hap' i2 i1 i4 i3 (.inr hsl) (st:=st) (vx:=vy) b4 (.inr a1)
   refine .inl ⟨by rw[gya vy ey];exact g1,vx,ex,.inr ⟨Gp (fun z hz=>(hput' z hz).symm) (AOr (fun i hi=>(AI3 i2 i4 b4 i hi).symm) a1),a4⟩,fun R k=>by rw[ov' R k];exact a3 R k,?_⟩
   obtain⟨p1,p2,p3⟩:=LG a4
   obtain⟨r1,r2,r3⟩:=LG b4
   have hdis:∀ p∈ey.objs,∀ q∈ex.objs,p.1≠q.1:=by
    intro p hp q hq he
    rcases r2 p hp with h|⟨hw,h⟩<;>rcases p2 q hq with h'|⟨hw',h'⟩
    ·omega
    ·exact i2 _ (Jf h') (he▸h)
    ·exact i1 _ (Jf h) (he▸h')
    ·exact i3 _ h' (he▸Jf h)
   rw[St.LS,St.LS,St.put_comm _ vx vy hdd]
   congr 2
   unfold St.app
   rw[CH p1,CH r1,CS p1,CS r1,CH r1,CH p1,CS r1,CS p1,ALO _ _ hdis,AQJ]
  ·refine⟨st.put y.dst BJ,.inr ⟨by rw[← gxa vx ex];exact g2,rfl⟩,.inl ⟨?_,vx,ex,.inr ⟨?_,a4⟩,fun R k => ?_,?_⟩⟩
   ·rw[show B5 all x.guard (st.put y.dst BJ)=B5 all x.guard st from gy BJ st.heap st.frz st];exact g1
   ·have hh:(st.put y.dst BJ).heap=st.heap:=by cases y.dst<;>rfl
    rw[hh]
    exact Gp (fun z hz=>(Bt hap' st BJ z hz).symm) a1
   ·have hh:(st.put y.dst BJ).heap=st.heap∧(st.put y.dst BJ).frz=st.frz:=by cases y.dst<;>exact⟨rfl,rfl⟩
    rw[hh.1,hh.2,Bo x.op x.type _ _ sx k fun z hz=>Bt hap' st BJ z hz]
    exact a3 R k
   ·rw[St.LS,St.put_comm _ vx BJ hdd]
 ·rcases hy with⟨g2,vy,ey,hqy,b3,rfl⟩|⟨g2,rfl⟩
  ·obtain⟨b1,b4⟩:=hqy.resolve_left (by rw[n2];simp)
   have hh:(st.put x.dst BJ).heap=st.heap∧(st.put x.dst BJ).frz=st.frz:=by cases x.dst<;>exact⟨rfl,rfl⟩
   rw[hh.1]at b1
   have hput:∀ z∈y.op.operands,BL (st.put x.dst BJ).tmps z=BL st.tmps z:=fun z hz=>Bt hap st BJ z hz
   have b1:=Gp hput b1
   refine⟨(st.app ey).put y.dst vy,.inl ⟨by rw[← show B5 all y.guard (st.put x.dst BJ)=B5 all y.guard st from gx BJ st.heap st.frz st];exact g2,vy,ey,.inr ⟨b1,b4⟩,fun R k => ?_,rfl⟩,.inr ⟨by rw[gya vy ey];exact g1,?_⟩⟩
   ·have:=b3 R k
    rw[hh.1,hh.2,Bo y.op y.type _ _ sy k hput]at this
    exact this
   ·rw[St.LS,St.put_comm _ BJ vy hdd]
  ·exact⟨st.put y.dst BJ,.inr ⟨by rw[← show B5 all y.guard (st.put x.dst BJ)=B5 all y.guard st from gx BJ st.heap st.frz st];exact g2,rfl⟩,
    .inr ⟨by rw[show B5 all x.guard (st.put y.dst BJ)=B5 all x.guard st from gy BJ st.heap st.frz st];exact g1,St.put_comm _ BJ BJ hdd⟩⟩
def Abm(H H':List Ob)(id:Nat):Prop:=(∃ a b es,H[id]? = some (.map a b es))∧∃ a b es,H'[id]? = some (.map a b es)
theorem Gm{H H':List Ob}(h:∀ id,H[id]? = H'[id]?∨Abm H H' id)(t:Ty)(v:AV):Dz H t v=Dz H' t v:=by
 cases v<;>simp only[Dz]
 ·rename_i id
  rcases h id with h|⟨⟨a,b,es,h1⟩,a',b',es',h2⟩
  ·rw[h]
  ·rw[h1,h2]
 ·rename_i id off n
  rcases h id with h|⟨⟨a,b,es,h1⟩,a',b',es',h2⟩
  ·rw[h]
  ·rw[h1,h2]
theorem AeY{α:Type}{one one':List AV→Option (α×List Nat×List AV)}(h1:∀ cs,one cs=one' cs):∀ (n:Nat) (cs:List AV),RT one n cs=RT one' n cs:=by
 intro n
 induction n with
 |zero=>intro cs;rfl
 |succ n ih=>
  intro cs
  simp only[RT]
  rw[← h1 cs]
  cases one cs with
  |none=>rfl
  |some p=>obtain⟨x,f,r⟩:=p;simp only[ih]
theorem AMr{H H':List Ob}(h:∀ id,H[id]? = H'[id]?∨Abm H H' id):∀ (t:Ty) (cs:List AV),As H t cs=As H' t cs:=by
 intro t
 induction t with
 |unit=>intro cs;cases cs<;>rfl
 |bool=>intro cs;cases cs with
  |nil=>rfl
  |cons c cs=>unfold As;rw[Gm h .bool c]
 |int k=>intro cs;cases cs with
  |nil=>rfl
  |cons c cs=>unfold As;rw[Gm h (.int k) c]
 |slice e _=>intro cs;cases cs with
  |nil=>rfl
  |cons c cs=>unfold As;rw[Gm h (.slice e) c]
 |nul e=>intro cs;cases cs with
  |nil=>rfl
  |cons c cs=>unfold As;rw[Gm h (.nul e) c]
 |prod a b iha ihb=>
  intro cs
  simp only[As]
  rw[← iha cs]
  cases As H a cs with
  |none=>rfl
  |some p=>obtain⟨x,f,r⟩:=p;simp only[ihb]
 |arr n e ih=>intro cs;simp only[As];exact AeY ih n cs
theorem AgH{H H':List Ob}(h:∀ id,H[id]? = H'[id]?∨Abm H H' id)(t:Ty)(v:AV):FE H t v=FE H' t v:=by
 unfold FE
 split
 ·cases v<;>simp only[asAgg]
  rename_i cs
  rw[AMr h t cs]
 ·exact Gm h t v
theorem AeJ{α β:Type}[DecidableEq α](es:List (α×β))(k j:α)(z:β):(AS (Ae es k ((AS es k).getD z)) j).getD z=(AS es j).getD z:=by
 have key:∀ (es:List (α×β)) (v:β),AS (Ae es k v) j=if j=k then some v else AS es j:=by
  intro es v
  induction es with
  |nil=>
   simp only[Ae,AS]
   by_cases h:j=k
   ·rw[ApZ h,ApZ h.symm]
   ·rw[ApV h,ApV (AqH h)]
  |cons e es ih=>
   obtain⟨a,x⟩:=e
   by_cases h1:a=k
   ·subst h1
    simp only[Ae,AS,Ap6]
    by_cases h:j=a
    ·rw[ApZ h,ApZ h.symm]
    ·rw[ApV h,ApV (AqH h),ApV (AqH h)]
   ·simp only[Ae,AS,h1,Apf,ih]
    by_cases h:a=j
    ·subst h
     rw[ApZ rfl,ApV h1,ApZ rfl]
    ·rw[ApV h,ApV h]
 rw[key]
 by_cases h:j=k
 ·rw[ApZ h,h];rfl
 ·rw[ApV h]
theorem AMh{R:Type}{H:List Ob}{j:Nat}{a b:Ty}{es es':List (a.den×b.den)}(hj:H[j]? = some (.map a b es))(hval:∀ key:a.den,(AS (α:=a.den) es' key).getD b.zero=(AS (α:=a.den) es key).getD b.zero)
  (T:TypeId) (m x:Operand) (ty:TypeId) (ρ:Operand→AV) (fz fz':List Bool) (slot slot':Nat) (kk:AV→Eff→Option R) :
  evalOp P E R (.lookup T m x false) ty ρ (H.set j (.map a b es')) fz' slot' kk=evalOp P E R (.lookup T m x false) ty ρ H fz slot kk:=by
 have hlt:=At hj
 have hm:∀ id,(H.set j (.map a b es'))[id]? = H[id]?∨Abm (H.set j (.map a b es')) H id:=fun id=>by
  by_cases hid:id=j
  ·subst hid
   exact .inr ⟨⟨a,b,es',BM hlt⟩,a,b,es,hj⟩
  ·exact .inl (A1 hid)
 simp only[evalOp,AgH hm]
 cases P.underlying T with
 |none=>rfl
 |some d=>
  cases d with
  |map kt vt=>
   cases hv:ρ m<;>try rfl
   rename_i id
   dsimp only
   by_cases hid:id=j
   ·subst hid
    rw[BM hlt,hj]
    dsimp only
    cases decide (X1 P kt=some a)with
    |false=>rfl
    |true=>cases zeroAt P vt with
     |none=>rfl
     |some z=>
      obtain⟨b',zc⟩:=z
      dsimp only
      cases decide (b'=b)with
      |false=>rfl
      |true=>cases FE H a (ρ x)with
       |none=>rfl
       |some p=>
        obtain⟨key,f⟩:=p
        dsimp only
        rw[hval key]
   ·rw[A1 hid]
  |_=>rfl
theorem AMd{H:List Ob}{fz:List Bool}{T:TypeId}{m x:Operand}{ty:TypeId}{ρ:Operand→AV}{slot:Nat}{v:AV}{e:Eff}(h:∀ (R:Type) (k:AV→Eff→Option R),evalOp P E R (.mapEntry T m x) ty ρ H fz slot k=k v e):
  ∃ id a b es,∃ key:a.den,H[id]? = some (.map a b es)∧e = { objs:=[(id,.map a b (Ae (α:=a.den) es key ((AS (α:=a.den) es key).getD b.zero)))] }:=by
 have:=h Eff (fun _ e=>some e)
 simp only[evalOp]at this
 split at this
 ·split at this
  ·rename_i id _ _ a b es ho
   split at this
   ·split at this
    ·simp only[ApN]at this
     exact⟨_,_,_,_,_,ho,this.symm⟩
    ·cases this
   ·cases this
  ·cases this
 ·cases this
theorem Abn{H H':List Ob}{ρ:Operand→AV}{o:Op}{φ:List Nat}(hw:Yk φ=false)(hk:Kn E H ρ o φ):Kn E H' ρ o φ:=by
 rcases hk with⟨h1,_⟩|hk
 ·rw[hw]at h1;cases h1
 ·exact .inr hk
theorem AVX{all:List Oper}{x y:Oper}{φx φy:List Nat}{sx sy:Nat}(hap:apart? all x y=true)(w1:Yk φx=false)(w2:Yk φy=false)(hm:ZY x.op y.op=true)
  {st s1 s2:St} (hx:CZ P E all x φx sx st s1) (hy:CZ P E all y φy sy s1 s2):∃ s1',CZ P E all y φy sy st s1'∧CZ P E all x φx sx s1' s2:=by
 have hap':=LU hap
 obtain⟨_,hdd,_⟩:=Oper.apart_spec hap
 obtain⟨T,m,kx,ok,hxo,T',m',ky,hyo,hok⟩:∃ T m kx ok,x.op = .lookup T m kx ok∧∃ T' m' ky,y.op = .mapEntry T' m' ky∧ok=false:=by
  cases hxo:x.op<;>cases hyo:y.op<;>rw[hxo,hyo]at hm<;>simp only[ZY,Apc]at hm
  exact⟨_,_,_,_,rfl,_,_,_,rfl,by simpa using hm⟩
 subst hok
 have gx:∀ (v:AV) (s:St),B5 all y.guard (s.put x.dst v)=B5 all y.guard s:=fun v s=>Gd hap s v s.heap s.frz
 have gy:∀ (v:AV) (H:List Ob) (F:List Bool) (s:St),B5 all x.guard ({ s with heap:=H,frz:=F }.put y.dst v)=B5 all x.guard s:=fun v H F s=>Gd hap' s v H F
 have hh:∀ v:AV,(st.put x.dst v).heap=st.heap∧(st.put x.dst v).frz=st.frz:=fun v=>by cases x.dst<;>exact⟨rfl,rfl⟩
 have xs:∃ vx,s1=st.put x.dst vx∧∀ s:St,(∀ z∈x.op.operands,BL s.tmps z=BL st.tmps z)→B5 all x.guard s=B5 all x.guard st →
   (s.heap=st.heap∨∃ j a b es es',st.heap[j]? = some (.map a b es)∧s.heap=st.heap.set j (.map a b es')∧∀ key:a.den,(AS (α:=a.den) es' key).getD b.zero=(AS (α:=a.den) es key).getD b.zero)→CZ P E all x φx sx s (s.put x.dst vx):=by
  rcases hx with⟨g1,vx,ex,hqx,a3,rfl⟩|⟨g1,rfl⟩
  ·have he:=AEK (by rw[hxo];rfl) _ _ _ _ _ a3
   subst he
   refine⟨vx,rfl,fun s hput hg hH=>.inl ⟨by rw[hg];exact g1,vx,{},?_,fun R k => ?_,rfl⟩⟩
   ·rcases hqx with h|⟨h1,h4⟩
    ·exact .inl h
    ·exact .inr ⟨Abn w1 (Gp (fun z hz=>(hput z hz).symm) h1),h4⟩
   ·rw[← a3 R k,Bo x.op x.type _ _ sx k hput]
    rcases hH with hH|⟨j,a,b,es,es',h1,h2,h3⟩
    ·rw[hH,hxo];rfl
    ·rw[h2,hxo]
     exact AMh h1 h3 _ _ _ _ _ _ _ _ _ _
  ·exact⟨BJ,rfl,fun s _ hg _=>.inr ⟨by rw[hg];exact g1,rfl⟩⟩
 obtain⟨vx,rfl,hxs⟩:=xs
 have hput:∀ z∈y.op.operands,BL (st.put x.dst vx).tmps z=BL st.tmps z:=fun z hz=>Bt hap st vx z hz
 rcases hy with⟨g2,vy,ey,hqy,b3,rfl⟩|⟨g2,rfl⟩
 ·have b3':∀ (R:Type) (k:AV→Eff→Option R),evalOp P E R y.op y.type (BL st.tmps) st.heap st.frz sy k=k vy ey:=fun R k=>by
   have:=b3 R k
   rw[(hh vx).1,(hh vx).2,Bo y.op y.type _ _ sy k hput]at this
   exact this
  refine⟨(st.app ey).put y.dst vy,.inl ⟨by rw[← gx vx st];exact g2,vy,ey,?_,b3',rfl⟩,?_⟩
  ·rcases hqy with h|⟨h1,h4⟩
   ·exact .inl h
   ·exact .inr ⟨Abn w2 (Gp hput h1),h4⟩
  ·rw[hyo]at b3'
   obtain⟨j,a,b,es,key,ho,rfl⟩:=AMd b3'
   have:=hxs ((st.app { objs:=[(j,.map a b (Ae (α:=a.den) es key ((AS (α:=a.den) es key).getD b.zero)))] }).put y.dst vy) (fun z hz=>Bt hap' (st.app _) vy z hz) (gy vy _ _ st)
    (.inr ⟨j,a,b,es,_,ho,by cases y.dst<;>rfl,fun k=>AeJ (α:=a.den) es key k b.zero⟩)
   rw[St.LS,St.put_comm _ vx vy hdd]
   exact this
 ·refine⟨st.put y.dst BJ,.inr ⟨by rw[← gx vx st];exact g2,rfl⟩,?_⟩
  have:=hxs (st.put y.dst BJ) (fun z hz=>Bt hap' st BJ z hz) (gy BJ st.heap st.frz st) (.inl (by cases y.dst<;>rfl))
  rw[St.put_comm _ vx BJ hdd]
  exact this
theorem AcX(hL:Ir E){all:List Oper}{x y:Oper}{φx φy:List Nat}{sx sy:Nat}(hin:indep all x y φx φy sx sy=true)(hsl:sx+slotsOf x.op≤sy)
  {st s1 s2:St} (hx:CZ P E all x φx sx st s1) (hy:CZ P E all y φy sy s1 s2):∃ s1',CZ P E all y φy sy st s1'∧CZ P E all x φx sx s1' s2:=by
 obtain⟨hap,h⟩:=ASd hin
 rcases h with⟨w1,w2,hm⟩|⟨h1,h2⟩|⟨h1,h2⟩|⟨n1,n2,i1,i2,i3,i4⟩
 ·exact AVX hap w1 w2 hm hx hy
 ·exact AVZ hap h1 h2 hx hy
 ·exact AVY hap h1 h2 hx hy
 ·exact AVa hL hap n1 n2 i1 i2 i3 i4 hsl hx hy
end
end Go.Pev
end
section
namespace Go.Pev
open Go.RowKit
section
variable {P:Program} {E:Env}
theorem ASJ{all:List Oper}{y:Oper}{φy:List Nat}{sy:Nat}:∀ {l:List (Nat×Oper×List Nat×Nat)},ZX all y φy sy l=true→∀ q∈l,reach all 8 y q.1=true∨indep all q.2.1 y q.2.2.1 φy q.2.2.2 sy=true:=by
 intro l
 induction l with
 |nil=>intro _ q hq;cases hq
 |cons p l ih=>
  intro h q hq
  obtain⟨i,x,φx,sx⟩:=p
  simp only[ZX,ApU,Aq5]at h
  rcases ApT.1 hq with rfl|hq
  ·rcases h.1 with h1|h1|h1
   ·exact .inl (by simp only[reach,h1,Bool.true_or])
   ·exact .inr h1
   ·exact .inl h1
  ·exact ih h.2 q hq
theorem AMM{all:List Oper}{fp:List (List Nat)}{base:Nat}:∀ (rest pre:List Oper) (fp':List (List Nat)) (slot:Nat) (acc:List (Nat×Oper×List Nat×Nat)),all=pre++rest→fp'=fp.drop pre.length→slot=Bx all base pre.length →
  (∀ j x,j<pre.length→all[j]? = some x→(j,x,fp.getD j [],Bx all base j)∈acc)→AMN all rest fp' pre.length slot acc=true →
  ∀ i y,pre.length≤i→all[i]? = some y→(∀ e∈y.after.toList,Region.binds .any e=true→e.on<i) ∧
   ∀ j x,j<i→all[j]? = some x→reach all 8 y j=true∨indep all x y (fp.getD j []) (fp.getD i []) (Bx all base j) (Bx all base i)=true:=by
 intro rest
 induction rest with
 |nil=>
  intro pre fp' slot acc hall _ _ _ _ i y hi hy
  rw[hall,Aqa,Apm hi]at hy;cases hy
 |cons o rest ih=>
  intro pre fp' slot acc hall hfp hsl hacc h i y hi hy
  simp only[AMN,ApU]at h
  obtain⟨⟨h1,h2⟩,h3⟩:=h
  have hlen:(pre++[o]).length=pre.length+1:=by simp
  have hfp1:fp'.headD []=fp.getD pre.length []:=by
   rw[hfp,ApP,List.headD_eq_head?_getD,List.head?_drop]
  have hfp2:fp'.tail=fp.drop (pre++[o]).length:=by rw[hfp,hlen,List.tail_drop]
  have hs2:slot+slotsOf o.op=Bx all base (pre++[o]).length:=by
   rw[hsl,hlen]
   unfold Bx
   have e1:all.take (pre.length+1)=pre++[o]:=by rw[hall,ArR,AqJ (by omega)];simp
   have e2:all.take pre.length=pre:=by rw[hall];simp
   rw[e1,e2,Kb]
   simp[Ez];omega
  have ho:all[pre.length]? = some o:=by rw[hall];simp
  rcases AqV pre.length i with hlt|hge
  ·refine ih (pre++[o]) _ _ _ (by rw[hall];simp) hfp2 hs2 (fun j x hj hx => ?_) (by rw[hlen];exact h3) i y (by rw[hlen];exact hlt) hy
   rw[hlen]at hj
   by_cases hjp:j=pre.length
   ·subst hjp
    rw[ho]at hx;cases hx
    rw[hfp1,hsl];simp
   ·exact Apv _ (hacc j x (by omega) hx)
  ·have hip:i=pre.length:=by omega
   subst hip
   rw[ho]at hy;cases hy
   refine⟨fun e he hb => ?_,fun j x hj hx => ?_⟩
   ·rw[Apt]at h2
    have:=h2 e he
    rw[hb]at this
    simpa using this
   ·rw[hfp1,hsl]at h1
    exact ASJ h1 _ (hacc j x hj hx)
theorem Acg{all:List Oper}{base i j:Nat}{x:Oper}(hij:j<i)(hx:all[j]? = some x):Bx all base j+slotsOf x.op≤Bx all base i:=by
 unfold Bx
 have hjl:j<all.length:=by
  rcases AqV j all.length with h|h
  ·exact h
  ·rw[Apm h]at hx;cases hx
 have e:all.take (j+1)=all.take j++[x]:=by
  rw[Aqr hjl]
  rw[ApO hjl]at hx
  cases hx;rfl
 have e2:all.take i=all.take (j+1)++(all.drop (j+1)).take (i-(j+1)):=by
  rw[← List.take_add];congr 1;omega
 rw[e2,e,Kb,Kb]
 simp[Ez];omega
theorem AUD(hL:Ir E){all:List Oper}{fp:Nat→List Nat}{base:Nat}{i:Nat}{y:Oper}(hy:all[i]? = some y):
  ∀ (l1 l2:List Nat) (st st':St),(∀ j∈l1,j<i∧∀ x,all[j]? = some x→indep all x y (fp j) (fp i) (Bx all base j) (Bx all base i)=true) →
   AJ9 P E all fp (Bx all base) (l1++i::l2) st st'→AJ9 P E all fp (Bx all base) (i::(l1++l2)) st st':=by
 intro l1
 induction l1 with
 |nil=>intro l2 st st' _ h;exact h
 |cons j l1 ih=>
  intro l2 st st' hj h
  obtain⟨x,s1,hx,h1,h2⟩:=h
  obtain⟨y',s2,hy',h3,h4⟩:=ih l2 s1 st' (fun k hk=>hj k (by simp[hk])) h2
  rw[hy]at hy';cases hy'
  obtain⟨hlt,hin⟩:=hj j (by simp)
  obtain⟨s1',h5,h6⟩:=AcX hL (hin x hx) (Acg hlt hx) h1 h3
  exact⟨y,s1',hy,h5,x,s2,hx,h6,h4⟩
def A6(n:Nat)(listed:Array Bool):List Nat:=(List.range n).filter fun i => !listed.getD i true
theorem AKO{n:Nat}{listed:Array Bool}{i:Nat}(hs:listed.size=n)(l1 l2:List Nat)(h:A6 n listed=l1++i::l2):A6 n (listed.setIfInBounds i true)=l1++l2:=by
 have hnd:(A6 n listed).Nodup:=AsJ _ Aqz
 have hmem:i∈A6 n listed:=by rw[h];simp
 have hin:i<n:=by
  unfold A6 at hmem
  simpa using (Apg.1 hmem).1
 have e:A6 n (listed.setIfInBounds i true)=(A6 n listed).filter fun j=>decide (j≠i):=by
  unfold A6
  rw[List.filter_filter]
  apply Arm
  intro j hj
  have hjn:j<n:=by simpa using hj
  by_cases hji:j=i
  ·subst hji
   simp[AqE,hs,hjn]
  ·simp[AqE,Array.getElem?_setIfInBounds_ne (AqH hji),hji]
 rw[e,h]
 rw[h]at hnd
 rw[Aq1]at hnd
 obtain⟨_,hn2,hd⟩:=hnd
 rw[Aqh,Aqc]
 simp only[ne_eq,Aqu,Ap8,Apc,Apf]
 rw[Arz.2,Arz.2]
 ·intro j hj
  have:j≠i:=by rintro rfl;exact(Apw.1 hn2).1 hj
  simp[this]
 ·intro j hj
  have:j≠i:=hd j hj i (by simp)
  simp[this]
theorem Yl{n:Nat}{listed:Array Bool}{i:Nat}{l1 l2:List Nat}(h:A6 n listed=l1++i::l2):∀ j∈l1,j<i:=by
 have hp:(A6 n listed).Pairwise (· < ·):=AsJ _ List.pairwise_lt_range
 rw[h,AsK]at hp
 intro j hj
 exact hp.2.2 j hj i (by simp)
def AaH(ops:List Oper)(listed:Nat→Bool):Prop:=∀ k z,ops[k]? = some z→listed k=true→∀ e∈z.after.toList,Region.binds .any e=true→listed e.on=true
theorem ALk{ops:List Oper}{listed:Nat→Bool}(hc:AaH ops listed):∀ (n:Nat) (y:Oper) (j:Nat),(∀ e∈y.after.toList,Region.binds .any e=true→listed e.on=true)→reach ops n y j=true→listed j=true:=by
 intro n
 induction n with
 |zero=>intro y j _ h;cases h
 |succ n ih=>
  intro y j hy h
  simp only[reach,Aq5]at h
  rcases h with h|h
  ·unfold AM7 at h
   rw[ArU]at h
   obtain⟨e,he,hbe⟩:=h
   simp only[ApU,ApQ]at hbe
   have:=hy e he hbe.1
   rwa [hbe.2]at this
  ·rw[ArU]at h
   obtain⟨e,he,hbe⟩:=h
   simp only[ApU]at hbe
   obtain⟨h1,h2⟩:=hbe
   split at h2
   ·rename_i z hz
    exact ih z j (hc e.on z hz (hy e he h1)) h2
   ·cases h2
theorem Af1(hE:∀ g,AO P g (E.spec g))(hL:Ir E){ops:Array Oper}{fp:Nat→List Nat}{base:Nat}{Q:Exit→Act→World→Prop}{st':St}
  (hok:∀ i y,ops.toList[i]? = some y→(∀ e∈y.after.toList,Region.binds .any e=true→e.on<i) ∧
   ∀ j x,j<i→ops.toList[j]? = some x→reach ops.toList 8 y j=true∨indep ops.toList x y (fp j) (fp i) (Bx ops.toList base j) (Bx ops.toList base i)=true) :
  ∀ (fuel:Nat) (listed:Array Bool) (st:St) (w:World) (F:Nat→Prop) (m:Mp) (a:Act),listed.size=ops.size→AaH ops.toList (fun i=>listed.getD i false)→(A6 ops.size listed).length≤fuel→SI w F m st a →
   AJ9 P E ops.toList fp (Bx ops.toList base) (A6 ops.size listed) st st' →
   (∀ a' w' F' m',SI w' F' m' st' a'→Ext w F m st.heap st.frz w' F' m' st'.heap st'.frz→Q .normal a' w')→wpAny P .any ops Q fuel listed a w:=by
 intro fuel
 have hdone:∀ (listed:Array Bool) (st:St) (w:World) (F:Nat→Prop) (m:Mp) (a:Act),A6 ops.size listed=[]→SI w F m st a→AJ9 P E ops.toList fp (Bx ops.toList base) (A6 ops.size listed) st st' →
   (∀ a' w' F' m',SI w' F' m' st' a'→Ext w F m st.heap st.frz w' F' m' st'.heap st'.frz→Q .normal a' w')→Q .normal a w:=by
  intro listed st w F m a h0 hs hc hq
  rw[h0]at hc
  have hc:st=st':=hc
  subst hc
  exact hq a w F m hs (Ext.refl ..)
 have hready:∀ (listed:Array Bool) (i:Nat),i∈Region.ready .any ops listed↔i∈A6 ops.size listed∧((ops[i]?).map (·.after.all fun e => !Region.binds .any e||listed.getD e.on false)).getD false=true:=by
  intro listed i
  unfold Region.ready A6
  simp only[Apg,ApU,Apz]
  exact⟨fun ⟨h1,h2,h3⟩=>⟨⟨h1,h2⟩,h3⟩,fun ⟨⟨h1,h2⟩,h3⟩=>⟨h1,h2,h3⟩⟩
 induction fuel with
 |zero=>
  intro listed st w F m a hsz hcl hl hs hc hq
  have h0:A6 ops.size listed=[]:=Apq (by omega)
  refine⟨List.eq_nil_iff_forall_not_mem.2 fun i hi => ?_,hdone listed st w F m a h0 hs hc hq⟩
  have:=((hready listed i).1 hi).1
  rw[h0]at this;cases this
 |succ fuel ih=>
  intro listed st w F m a hsz hcl hl hs hc hq
  refine⟨fun hnil => ?_,fun i hi => ?_⟩
  ·refine hdone listed st w F m a ?_ hs hc hq
   cases hu:A6 ops.size listed with
   |nil=>rfl
   |cons i l=>
    exfalso
    have hmem:i∈A6 ops.size listed:=by rw[hu];simp
    have hin:i<ops.size:=by unfold A6 at hmem;simpa using (Apg.1 hmem).1
    have:i∈Region.ready .any ops listed:=by
     refine(hready listed i).2 ⟨hmem,?_⟩
     rw[Aqf hin]
     simp only[Ari,AqI]
     rw[← Array.all_toList,Apt]
     intro e he
     cases hb:Region.binds .any e with
     |false=>rfl
     |true=>
      have hlt:=(hok i ops[i] (by simp[hin])).1 e he hb
      simp only[ApX,Bool.false_or]
      cases hg:listed.getD e.on false with
      |true=>rfl
      |false=>
       exfalso
       have hon:e.on<ops.size:=by omega
       have:e.on∈A6 ops.size listed:=by
        unfold A6
        rw[Apg]
        refine⟨by simpa using hon,?_⟩
        have hlt':e.on<listed.size:=by omega
        rw[AqE,Aqf hlt']at hg ⊢
        simpa using hg
       rw[hu]at this
       have hp:(A6 ops.size listed).Pairwise (· < ·):=AsJ _ List.pairwise_lt_range
       rw[hu,AqZ]at hp
       rcases ApT.1 this with h|h
       ·omega
       ·have:=hp.1 _ h;omega
    rw[hnil]at this;cases this
  ·obtain⟨hmem,hrd⟩:=(hready listed i).1 hi
   have hin:i<ops.size:=by unfold A6 at hmem;simpa using (Apg.1 hmem).1
   obtain⟨l1,l2,hsplit⟩:=Ar4 hmem
   have hgi:ops[i]? = some ops[i]:=Aqf hin
   have hgl:ops.toList[i]? = some ops[i]:=by simp[hin]
   rw[hgi]at hrd
   simp only[Ari,AqI]at hrd
   rw[← Array.all_toList,Apt]at hrd
   rw[hsplit]at hc
   obtain⟨y,s1,hy,h1,h2⟩:=AUD hL hgl l1 l2 st st' (fun j hj=>by
    have hji:=Yl hsplit j hj
    refine⟨hji,fun x hx => ?_⟩
    rcases(hok i _ hgl).2 j x hji hx with h|h
    ·exfalso
     have hall:∀ e∈(ops[i]).after.toList,Region.binds .any e=true→(fun i=>listed.getD i false) e.on=true:=by
      intro e he hb
      have:=hrd e he
      rw[hb]at this
      simpa using this
     have this:=ALk hcl 8 _ j hall h
     have hju:j∈A6 ops.size listed:=by rw[hsplit];simp[hj]
     unfold A6 at hju
     have h3:=(Apg.1 hju).2
     have hjl:j<listed.size:=by omega
     rw[AqE,Aqf hjl]at this h3
     simp only[AqI]at this h3
     rw[this]at h3;cases h3
    ·exact h) hc
   rw[hgl]at hy;cases hy
   have hnext:=AKO hsz l1 l2 hsplit
   have hlen:(A6 ops.size (listed.setIfInBounds i true)).length≤fuel:=by
    rw[hnext]
    rw[hsplit]at hl
    simp only[ApS,ApW]at hl ⊢
    omega
   have hcl2:AaH ops.toList (fun k=>(listed.setIfInBounds i true).getD k false):=by
    have hset:∀ k,(listed.setIfInBounds i true).getD k false=true↔(k=i∨listed.getD k false=true):=by
     intro k
     have hil:i<listed.size:=by omega
     rw[AqE,AqE,Array.getElem?_setIfInBounds]
     by_cases hki:i=k
     ·subst hki;simp[hil]
     ·simp[hki,AqH hki]
    intro k z hz hk e he hb
    simp only[hset]at hk ⊢
    right
    rcases hk with rfl|hk
    ·rw[hgl]at hz;cases hz
     have:=hrd e he
     rw[hb]at this
     simpa using this
    ·exact hcl k z hz hk e he hb
   unfold wpOp
   rw[hgi]
   simp only
   rcases h1 with⟨hg,v,e,_,b3,rfl⟩|⟨hg,rfl⟩
   ·have hw:Region.wanted ops[i] (yielded ops a.tmps)=true:=by
     unfold B5 at hg
     unfold Region.wanted
     cases hgd:ops[i].guard with
     |none=>rfl
     |some p=>
      obtain⟨j,want⟩:=p
      rw[hgd]at hg
      dsimp only at hg ⊢
      cases hj:(ops.toList[j]?).bind (·.dst)with
      |none=>rw[hj]at hg;cases hg
      |some d=>
       rw[hj]at hg
       dsimp only at hg
       split at hg
       ·rename_i b hd
        rw[PC hs hj hd]
        simpa using hg
       ·simp at hg
       ·cases hg
    rw[ApZ hw]
    left
    obtain⟨v',e',c1,_,c3⟩:=J0 hE ops[i].op (AV×Eff) ops[i].type (BL st.tmps) st.heap st.frz (Bx ops.toList base i) (fun v e=>some (v,e)) (v,e) (b3 _ _)
    simp only[ApN,Apj]at c1
    obtain⟨rfl,rfl⟩:=c1
    refine c3 w F m a ops[i] _ Q rfl rfl hs.heap (fun x=>ADm hs.tmps x) fun u w' F' m' hgo hr => ?_
    have hs2:=(hs.go hgo).put hr ops[i].dst
    refine ih _ _ w' F' m' _ (by simp[hsz]) hcl2 hlen hs2 (by rw[hnext];exact h2) fun a' w2 F2 m2 q1 q2=>hq a' w2 F2 m2 q1 ?_
    have hh:((st.app e').put ops[i].dst v').heap=Ck e' st.heap∧((st.app e').put ops[i].dst v').frz=GC e' st.frz:=by cases ops[i].dst<;>exact⟨rfl,rfl⟩
    rw[hh.1,hh.2]at q2
    exact hgo.1.trans q2
   ·have hw:Region.wanted ops[i] (yielded ops a.tmps)=false:=by
     unfold B5 at hg
     unfold Region.wanted
     cases hgd:ops[i].guard with
     |none=>rw[hgd]at hg;cases hg
     |some p=>
      obtain⟨j,want⟩:=p
      rw[hgd]at hg
      dsimp only at hg ⊢
      cases hj:(ops.toList[j]?).bind (·.dst)with
      |none=>rw[hj]at hg;cases hg
      |some d=>
       rw[hj]at hg
       dsimp only at hg
       split at hg
       ·rename_i b hd
        rw[PC hs hj hd]
        simpa using hg
       ·rename_i hd
        rw[Qc hs hj hd]
        rfl
       ·cases hg
    rw[ApV (by simp[hw])]
    have hs2:SI w F m (st.put ops[i].dst BJ) (a.put ops[i].dst undef):=hs.put AP7 ops[i].dst
    refine ih _ _ w F m _ (by simp[hsz]) hcl2 hlen hs2 (by rw[hnext];exact h2) fun a' w2 F2 m2 q1 q2=>hq a' w2 F2 m2 q1 ?_
    have hh:(st.put ops[i].dst BJ).heap=st.heap∧(st.put ops[i].dst BJ).frz=st.frz:=by cases ops[i].dst<;>exact⟨rfl,rfl⟩
    rw[hh.1,hh.2]at q2
    exact q2
theorem SI.drew{w:World}{F:Nat→Prop}{m:Mp}{st:St}{a:Act}(h:SI w F m st a):SI w.drew F m st a∧Ext w F m st.heap st.frz w.drew F m st.heap st.frz:=by
 have hg:=Av.drew h.heap
 exact⟨⟨fun t=>hg.1.rep h.heap (h.tmps t),h.size,hg.2,h.defers⟩,hg.1⟩
theorem AGl(hE:∀ g,AO P g (E.spec g))(hL:Ir E){R:Type}{r:R}{id:Nat}{fp:List (List Nat)}{ops:Array Oper}{Q:Exit→Act→World→Prop}{k:St→Option R}{st:St}{w:World}{F:Nat→Prop}{m:Mp}{a:Act}
  (h:EN P E R fp ops.toList st k=some r) (hs:SI w F m st a) (hq:∀ a' w',Aor r k w F m st.heap st.frz a' w'→Q .normal a' w'):(Code.region id ops true).wp P Q a w:=by
 unfold EN at h
 split at h
 ·rename_i hok
  simp only[ApU]at hok
  obtain⟨hm,hok⟩:=hok
  obtain⟨hs1,he1⟩:=hs.drew
  obtain⟨hs2,he2⟩:=hs1.pad (Ez ops.toList)
  have hnn:ops.toList=[]++ops.toList:=by simp
  obtain⟨st',hc,hk⟩:=AGm hE (all:=ops.toList) (fp:=fp) (base:=st.heap.length) ops.toList [] fp st.heap.length _ hnn rfl (by simp[Bx,Ez]) h
  refine wp_region_any hm ?_
  have hu:A6 ops.size (Array.replicate ops.size false)=List.range' 0 ops.toList.length:=by
   unfold A6
   rw[Apl,← List.range_eq_range']
   rw[Arz]
   intro i hi
   have:i<ops.size:=by simpa using hi
   simp[AqE,this]
  refine Af1 (ops:=ops) hE hL (fp:=fun i=>fp.getD i []) (base:=st.heap.length) (st':=st') (fun i y hy=>AMM (all:=ops.toList) ops.toList [] fp _ [] hnn rfl (by simp[Bx,Ez]) (fun j x hj=>by simp at hj) hok i y (ArN _) hy)
   ops.size _ _ w.drew F m a (by simp) (fun k z _ hk=>by
    exfalso
    have hk:(Array.replicate ops.size false).getD k false=true:=hk
    rw[AqE,Array.getElem?_replicate]at hk
    split at hk<;>cases hk) (by rw[hu];simp) hs2 (by rw[hu];exact hc) fun a' w' F' m' q1 q2=>hq a' w' ⟨st',F',m',hk,q1,he1.trans (he2.trans q2)⟩
 ·cases h
end
end Go.Pev
end
section
namespace Go.Pev
open Go.RowKit
def BT(w:World)(F:Nat→Prop)(m:Mp)(H:List Ob)(fz:List Bool)(m':Mp)(H':List Ob)(j:Nat):Bnd→Prop
 |.none=>m' j=none∧((∃ T e,H'[j]? = some (.arr T e [])∧0<e.size)∨∃ T t,H'[j]? = some (.prs T t []))
 |.whole id=>m' j=m id∧((∃ T t xs,H[id]? = some (.arr T t xs)∧H'[j]? = some (.arr T t xs)∧fz.getD id false=false) ∨
   (∃ k v es,H[id]? = some (.map k v es)∧H'[j]? = some (.map k v es)) ∨
   (∃ cs cs' b c vs T,H[id]? = some (.box cs)∧H'[j]? = some (.box cs')∧cs'.length=cs.length∧m id=some (b,c)∧w.heap[b]? = some (.cells vs T (0,0))∧Ag w F m' H' cs' vs.toList∧∀ u∈vs.toList,u.oneCell'=true) ∨
   (∃ T tgt j0 is,H[id]? = some (.prs T tgt is)∧H'[j]? = some (.prs T j0 is)∧ObI w F m' H' (.prs T j0 is) (m id)))
 |.cut id=>∃ T t xs n,H[id]? = some (.arr T t xs)∧fz.getD id false=false∧H'[j]? = some (.arr T t (List.take (α:=t.den) n xs))∧(m' j=m id∨(m' j=none∧List.take (α:=t.den) n xs=[]))
structure Inv(w:World)(F:Nat→Prop)(m:Mp)(H:List Ob)(fz:List Bool)(bs:List Bnd)(m':Mp)(E:St)(val:Nat→Value):Prop where
 tmps:∀ t,Rep w F m' E.heap (E.tmps.getD t .junk) (val t)
 lenH:E.heap.length=bs.length
 lenF:E.frz.length=E.heap.length
 frz:∀ i,E.frz.getD i false=false
 ob:∀ j b,bs[j]? = some b→BT w F m H fz m' E.heap j b
 inj:∀ (i j:Nat) (b c:Bnd) (id:Nat),bs[i]? = some b→bs[j]? = some c→b.id? = some id→c.id? = some id→i=j
def AZ4(w:World)(m:Mp)(H:List Ob)(bs:List Bnd)(val:Nat→Value):Loc→Value→Prop
 |.tmp t,u=>u=val t
 |.cell j c,u=>∃ id b cc vs T cs,bs[j]? = some (.whole id)∧H[id]? = some (.box cs)∧m id=some (b,cc)∧w.heap[b]? = some (.cells vs T (0,0))∧vs.toList[c]? = some u
 |_,_=>True
theorem Ak9{w:World}{F:Nat→Prop}{m:Mp}{H:List Ob}{cs:List AV}{us:List Value}{c:Nat}{v:AV}{u:Value}(h:Ag w F m H cs us)(hu:us[c]? = some u)(hv:Rep w F m H v u):Ag w F m H (cs.set c v) us:=by
 refine DI (by simp[Aq h]) fun i x y hx hy => ?_
 by_cases hic:i=c
 ·subst hic
  rw[hu]at hy;cases hy
  have hl:i<cs.length:=by
   rw[← Aq h]
   rcases AqV i us.length with h'|h'
   ·exact h'
   ·rw[Apm h']at hu;cases hu
  rw[ArO hl]at hx
  cases hx;exact hv
 ·rw[AqU (AqH hic)]at hx
  obtain⟨y',hy',hr⟩:=CL h hx
  rw[hy]at hy';cases hy';exact hr
theorem Agn{w:World}{F:Nat→Prop}{m:Mp}{H:List Ob}{tm:List AV}{val:Nat→Value}(h:∀ t,Rep w F m H (tm.getD t .junk) (val t)){t:Nat}{v:AV}(hv:Rep w F m H v (val t)):∀ i,Rep w F m H ((tm.set t v).getD i .junk) (val i):=by
 intro i
 by_cases hit:i=t
 ·subst hit
  by_cases hl:i<tm.length
  ·simp[hl,hv]
  ·rw[List.set_eq_of_length_le (by omega)];exact h i
 ·have:=h i
  rw[ApP]at this ⊢
  rw[AqU (AqH hit)]
  exact this
theorem AQv{w:World}{F F2:Nat→Prop}{m m2:Mp}{H H2:List Ob}{T:TypeId}{j:Nat}{is:List Int}{l:Option (Nat×Nat)}(h3:∀ {cs us},Ag w F m H cs us→Ag w F2 m2 H2 cs us)(h:ObI w F m H (.prs T j is) l):ObI w F2 m2 H2 (.prs T j is) l:=by
 cases l with
 |none=>exact h
 |some p=>
  obtain⟨b,cap⟩:=p
  obtain⟨vs,us,e1,e2,e3,e4,e5,e6⟩:=h
  exact⟨vs,us,e1,e2,e3,e4,h3 e5,e6⟩
section
variable {w:World} {F:Nat→Prop} {m:Mp} {H:List Ob} {fz:List Bool} {bs:List Bnd} {m':Mp} {E:St} {val:Nat→Value}
theorem BT.mono{b:Bnd}{m'':Mp}{H' H'':List Ob}{j:Nat}(h:BT w F m H fz m' H' j b)(h1:H''[j]? = H'[j]?)(h2:m'' j=m' j)(h3:∀ {cs us},Ag w F m' H' cs us→Ag w F m'' H'' cs us):BT w F m H fz m'' H'' j b:=by
 cases b with
 |none=>simp only[BT]at *;rw[h1,h2];exact h
 |whole id=>
  simp only[BT]at *
  rw[h1,h2]
  obtain⟨e,h⟩:=h
  refine⟨e,?_⟩
  rcases h with h|h|⟨cs,cs',b,c,vs,T,a1,a2,a3,a4,a5,a6,a7⟩|⟨T,tgt,j0,is,a1,a2,a3⟩
  ·exact .inl h
  ·exact .inr (.inl h)
  ·exact .inr (.inr (.inl ⟨cs,cs',b,c,vs,T,a1,a2,a3,a4,a5,h3 a6,a7⟩))
  ·exact .inr (.inr (.inr ⟨T,tgt,j0,is,a1,a2,AQv h3 a3⟩))
 |cut id=>simp only[BT]at *;rw[h1,h2];exact h
theorem Inv.place(h:Inv w F m H fz bs m' E val){l:Loc}{u:Value}{v:AV}(hl:AZ4 w m H bs val l u)(hv:Rep w F m' E.heap v u):Inv w F m H fz bs m' (Pev.place E v l) val:=by
 cases l with
 |tmp t=>
  have hl:u=val t:=hl
  subst hl
  exact⟨Agn h.tmps hv,h.lenH,h.lenF,h.frz,h.ob,h.inj⟩
 |cap t i=>exact h
 |obj j=>exact h
 |cell j c=>
  obtain⟨id,b,cc,vs,T,cs,hj,hb,hm,hw,hu⟩:=hl
  have hbd:=h.ob j _ hj
  simp only[BT]at hbd
  obtain⟨hm',hbd⟩:=hbd
  rw[hb]at hbd
  rcases hbd with⟨_,_,_,hx,_⟩|⟨_,_,_,hx,_⟩|⟨cs0,cs',b0,c0,vs0,T0,hx,h1,h2,h3,h4,h5,h6⟩|⟨_,_,_,_,hx,_⟩
  ·cases hx
  ·cases hx
  rotate_left
  ·cases hx
  ·cases hx
   rw[hm]at h3;cases h3
   rw[hw]at h4;cases h4
   have hlt:=At h1
   have hcomp:C7 E.heap (E.heap.set j (.box (cs'.set c v))) m' m':=by
    intro i o hi hf
    by_cases hij:i=j
    ·subst hij
     rw[h1]at hi;cases hi
     exact .inr ⟨by simp,_,BM hlt,trivial,rfl⟩
    ·rcases C7.refl E.heap m' i o hi hf with h|⟨hd,o',h4,h5,_⟩
     ·exact .inl (by rw[A1 hij];exact h)
     ·exact .inr ⟨hd,o',by rw[A1 hij];exact h4,h5,rfl⟩
   have mono:∀ {a u},Rep w F m' E.heap a u→Rep w F m' (E.heap.set j (.box (cs'.set c v))) a u:=fun h=>Rep.mono (fun _ _=>rfl) (fun _ h=>h) hcomp _ h
   have monoL:∀ {a u},Ag w F m' E.heap a u→Ag w F m' (E.heap.set j (.box (cs'.set c v))) a u:=fun h=>Ag.mono (fun _ _=>rfl) (fun _ h=>h) hcomp _ h
   unfold Pev.place
   simp only[h1]
   refine⟨fun t=>mono (h.tmps t),by simp[h.lenH],by simp[h.lenF],h.frz,fun i x hi => ?_,h.inj⟩
   by_cases hij:i=j
   ·subst hij
    rw[hj]at hi;cases hi
    simp only[BT]
    exact⟨hm',.inr (.inr (.inl ⟨cs,_,b,cc,vs,T,hb,BM hlt,by simp[h2],hm,hw,monoL (Ak9 h5 hu hv),h6⟩))⟩
   ·exact(h.ob i x hi).mono (A1 hij) rfl monoL
theorem Ze{α:Type}{l:List α}{x y:α}{j:Nat}(h:(l++[x])[j]? = some y):(j<l.length∧l[j]? = some y)∨(j=l.length∧y=x):=by
 rcases AsA j l.length with hj|hj|hj
 ·rw[Apu hj]at h;exact .inl ⟨hj,h⟩
 ·subst hj;simp at h;exact .inr ⟨rfl,h.symm⟩
 ·rw[Apm (by simp;omega)]at h;cases h
theorem Inv.add(h:Inv w F m H fz bs m' E val){b:Bnd}{o:Ob}{l:Option (Nat×Nat)}(hid:∀ (i:Nat) (c:Bnd) (id:Nat),bs[i]? = some c→c.id? = some id→b.id?≠some id)
  (hbd:BT w F m H fz (upd m' E.heap.length l) (E.heap++[o]) E.heap.length b):Inv w F m H fz (bs++[b]) (upd m' E.heap.length l) (J9 E o) val:=by
 have hcomp:C7 E.heap (E.heap++[o]) m' (upd m' E.heap.length l):=by
  intro i x hi hf
  have hlt:=At hi
  rcases C7.refl E.heap m' i x hi hf with h|⟨hd,o',h4,h5,_⟩
  ·exact .inl (by rw[Apu hlt];exact h)
  ·exact .inr ⟨hd,o',by rw[Apu hlt];exact h4,h5,BU (by omega)⟩
 have monoL:∀ {a u},Ag w F m' E.heap a u→Ag w F (upd m' E.heap.length l) (E.heap++[o]) a u:=fun h=>Ag.mono (fun _ _=>rfl) (fun _ h=>h) hcomp _ h
 refine⟨fun t=>Rep.mono (fun _ _=>rfl) (fun _ h=>h) hcomp _ (h.tmps t),by simp[J9,h.lenH],by simp[J9,h.lenF],fun i => ?_,fun j x hj => ?_,fun i j x y id hi hj hx hy => ?_⟩
 ·have:=h.frz i
  simp only[J9]
  rw[ApP]at this ⊢
  rcases AqV i E.frz.length with hl|hl
  ·rw[Apu hl];exact this
  ·rw[Apx hl]
   cases hk:i-E.frz.length with
   |zero=>simp
   |succ k=>simp
 ·rcases Ze hj with⟨hlt,hj1⟩|⟨hj1,rfl⟩
  ·rw[← h.lenH]at hlt
   exact(h.ob j x hj1).mono (Apu hlt) (BU (by omega)) monoL
  ·rw[← h.lenH]at hj1
   rw[hj1]
   exact hbd
 ·rcases Ze hi with⟨hlt,hi1⟩|⟨hi1,rfl⟩
  ·rcases Ze hj with⟨hlt',hj1⟩|⟨hj1,rfl⟩
   ·exact h.inj i j x y id hi1 hj1 hx hy
   ·exact absurd hy (hid i x id hi1 hx)
  ·rcases Ze hj with⟨hlt',hj1⟩|⟨hj1,rfl⟩
   ·exact absurd hx (hid j y id hj1 hy)
   ·omega
theorem Jw{id:Nat}(h:fresh? bs id=true):∀ (i:Nat) (c:Bnd),bs[i]? = some c→c.id?≠some id:=by
 intro i c hi he
 unfold fresh? at h
 rw[Apt]at h
 have:=h c (Apb hi)
 cases c with
 |none=>simp[Bnd.id?]at he
 |whole k=>simp only[Bnd.id?,ApN]at he;subst he;simp at this
 |cut k=>simp only[Bnd.id?,ApN]at he;subst he;simp at this
theorem Inv.freeze(h:Inv w F m H fz bs m' E val){f:List Nat}(hf:f.all (fresh? bs)=true):Inv w (Dx F m H f) m H (Al f fz) bs m' E val:=by
 have monoL:∀ {a u},Ag w F m' E.heap a u→Ag w (Dx F m H f) m' E.heap a u:=fun h=>Ag.mono (fun _ _=>rfl) (fun _ h=>.inl h) (C7.refl _ _) _ h
 have hfz:∀ (id i:Nat) (c:Bnd),bs[i]? = some c→c.id? = some id→fz.getD id false=false→(Al f fz).getD id false=false:=by
  intro id i c hi hc h0
  rw[A2,h0]
  have:id∉f:=fun hid=>by
   rw[Apt]at hf
   exact Jw (hf id hid) i c hi hc
  simp[this]
 refine⟨fun t=>Rep.mono (fun _ _=>rfl) (fun _ h=>.inl h) (C7.refl _ _) _ (h.tmps t),h.lenH,h.lenF,h.frz,fun j b hj => ?_,h.inj⟩
 have:=h.ob j b hj
 cases b with
 |none=>exact this
 |whole id=>
  simp only[BT]at *
  obtain⟨e,this⟩:=this
  refine⟨e,?_⟩
  rcases this with⟨T,t,xs,a1,a2,a3⟩|h1|⟨cs,cs',b,c,vs,T,a1,a2,a3,a4,a5,a6,a7⟩|⟨T,tgt,j0,is,a1,a2,a3⟩
  ·exact .inl ⟨T,t,xs,a1,a2,hfz id j _ hj rfl a3⟩
  ·exact .inr (.inl h1)
  ·exact .inr (.inr (.inl ⟨cs,cs',b,c,vs,T,a1,a2,a3,a4,a5,monoL a6,a7⟩))
  ·exact .inr (.inr (.inr ⟨T,tgt,j0,is,a1,a2,AQv monoL a3⟩))
 |cut id=>
  simp only[BT]at *
  obtain⟨T,t,xs,n,a1,a2,a3⟩:=this
  exact⟨T,t,xs,n,a1,hfz id j _ hj rfl a2,a3⟩
theorem Ah9{j id off:Nat}{u:Value}(hb:BT w F m H fz m' E.heap j (.whole id))(hu:Rep w F m H (.ptr id off) u):Rep w F m' E.heap (.ptr j off) u:=by
 simp only[BT]at hb
 obtain⟨e,hb⟩:=hb
 unfold Rep at *
 unfold G0 at *
 rcases hb with⟨T,t,xs,a1,_⟩|⟨k,v,es,a1,_⟩|⟨cs,cs',b,c,vs,T,a1,a2,_,a4,_⟩|⟨_,_,_,_,a1,_⟩
 ·rw[a1]at hu;exact hu.elim
 ·rw[a1]at hu;exact hu.elim
 ·rw[a1]at hu
  rw[a2,e]
  exact hu
 ·rw[a1]at hu;exact hu.elim
theorem Am4{j id i sub:Nat}{u:Value}(hb:BT w F m H fz m' E.heap j (.whole id))(hu:Rep w F m H (.eptr id i sub) u):Rep w F m' E.heap (.eptr j i sub) u:=by
 simp only[BT]at hb
 obtain⟨e,hb⟩:=hb
 unfold Rep at *
 unfold Dt at *
 rcases hb with⟨T,t,xs,a1,a2,_⟩|⟨k,v,es,a1,_⟩|⟨cs,cs',b,c,vs,T,a1,a2,_,a4,_⟩|⟨_,_,_,_,a1,a2,_⟩
 ·rw[a1]at hu
  rw[a2,e]
  exact hu
 ·rw[a1]at hu;exact hu.elim
 ·rw[a1]at hu;exact hu.elim
 ·rw[a1]at hu
  rw[a2,e]
  exact hu
theorem Al5{j id:Nat}{is:List Int}{us:List Value}(hb:BT w F m H fz m' E.heap j (.whole id))(hu:Ag w F m H (FY id is) us):Ag w F m' E.heap (FY j is) us:=by
 refine DI (by have:=Aq hu;simpa [FY]using this) fun i c v hc hv => ?_
 rw[FY,Ap0,Ape]at hc
 obtain⟨x,hx,rfl⟩:=hc
 obtain⟨v',hv',hr⟩:=CL hu (i:=i) (c:=.eptr id x.toNat 0) (by rw[FY,Ap0,hx];rfl)
 rw[hv]at hv';cases hv'
 exact Am4 hb hr
theorem Ao2{j id:Nat}{u:Value}(hb:BT w F m H fz m' E.heap j (.whole id))(hu:Rep w F m H (.mp id) u):Rep w F m' E.heap (.mp j) u:=by
 simp only[BT]at hb
 obtain⟨e,hb⟩:=hb
 unfold Rep at *
 unfold O7 at *
 rcases hb with⟨T,t,xs,a1,_⟩|⟨k,v,es,a1,a2⟩|⟨cs,cs',b,c,vs,T,a1,a2,_,a4,_⟩|⟨_,_,_,_,a1,_⟩
 ·rw[a1]at hu;exact hu.elim
 ·rw[a1]at hu
  rw[a2,e]
  exact hu
 ·rw[a1]at hu;exact hu.elim
 ·rw[a1]at hu;exact hu.elim
theorem Ain{j id:Nat}{u:Value}(hb:BT w F m H fz m' E.heap j (.whole id))(hu:Rep w F m H (.own id) u):Rep w F m' E.heap (.own j) u:=by
 simp only[BT]at hb
 obtain⟨e,hb⟩:=hb
 unfold Rep at *
 unfold Bh at *
 rcases hb with⟨T,t,xs,a1,a2,_⟩|⟨k,v,es,a1,a2⟩|⟨cs,cs',b,c,vs,T,a1,a2,_,a4,_⟩|⟨_,_,_,_,a1,a2,_⟩
 ·rw[a1]at hu
  rw[a2,e]
  exact hu
 ·rw[a1]at hu;exact hu.elim
 ·rw[a1]at hu;exact hu.elim
 ·rw[a1]at hu
  rw[a2,e]
  exact hu
theorem AU2{j id off n:Nat}{u:Value}(hb:BT w F m H fz m' E.heap j (.whole id))(hu:Rep w F m H (.win id off n) u):Rep w F m' E.heap (.win j off n) u:=by
 simp only[BT]at hb
 obtain⟨e,hb⟩:=hb
 unfold Rep at *
 unfold Gz at *
 rcases hb with⟨T,t,xs,a1,a2,_⟩|⟨k,v,es,a1,a2⟩|⟨cs,cs',b,c,vs,T,a1,a2,_,a4,_⟩|⟨_,_,_,_,a1,_⟩
 ·rw[a1]at hu
  rw[a2,e]
  exact hu
 ·rw[a1]at hu;exact hu.elim
 ·rw[a1]at hu;exact hu.elim
 ·rw[a1]at hu;exact hu.elim
theorem AmI{id:Nat}{u:Value}{T:TypeId}{t:Ty}{ys:List t.den}(hi:HI w F m H fz)(ho:H[id]? = some (.arr T t ys))(hu:Rep w F m H (.own id) u):Rep w F m H (.win id 0 ys.length) u:=by
 unfold Rep at *
 unfold Bh at hu
 unfold Gz
 rw[ho]at hu ⊢
 simp only at hu ⊢
 refine⟨by omega,?_⟩
 cases hm:m id with
 |none=>
  rw[hm]at hu
  obtain⟨a,rfl⟩:=hu
  obtain⟨_,hob⟩:=hi.obj id _ ho
  rw[hm]at hob
  simp only at hob
  subst hob
  exact⟨a,rfl⟩
 |some p=>
  obtain⟨b,cap⟩:=p
  rw[hm]at hu
  simp only at hu
  subst hu
  exact⟨some ⟨b,0,none⟩,rfl,fun _=>by simp⟩
theorem Bd{α:Type}{l:List α}{i:Nat}{o:α}(h:l[i]? = some o):i<l.length:=by
 rcases AqV i l.length with h'|h'
 ·exact h'
 ·rw[Apm h']at h;cases h
theorem CV(hi:HI w F m H fz){tm:List AV}(ht:∀ t v,tm[t]? = some v→Rep w F m H v (val t)){l:Loc}{v:AV}(h:look tm H bs l=some v):∃ u,Rep w F m H v u∧AZ4 w m H bs val l u:=by
 cases l with
 |tmp t=>exact⟨val t,ht t v h,rfl⟩
 |cell j c=>
  simp only[look]at h
  split at h
  ·rename_i id hj
   split at h
   ·rename_i cs ho
    obtain⟨b,cc,vs,T,h1,h2,h3,h4⟩:=hi.obj id _ ho
    obtain⟨u,hu,hr⟩:=CL h3 h
    exact⟨u,hr,id,b,cc,vs,T,cs,hj,ho,h1,h2,hu⟩
   ·cases h
  ·cases h
 |cap t i=>
  simp only[look]at h
  split at h
  ·rename_i f cs hc
   have:=ht t _ hc
   unfold Rep at this
   obtain⟨us,_,hr⟩:=this
   obtain⟨u,_,hu⟩:=CL hr h
   exact⟨u,hu,trivial⟩
  ·rename_i f cs hc
   have:=ht t _ hc
   unfold Rep at this
   obtain⟨us,_,hr⟩:=this
   obtain⟨u,_,hu⟩:=CL hr h
   exact⟨u,hu,trivial⟩
  ·cases h
 |obj j=>
  simp only[look,Ano]at h
  split at h
  ·rename_i T t xs ho
   cases h
   have:=hi.obj j _ ho
   obtain⟨_,this⟩:=this
   cases hm:m j with
   |none=>
    refine⟨.slice none 0 0,?_,trivial⟩
    unfold Rep Bh;rw[ho,hm];exact⟨none,rfl⟩
   |some p=>
    obtain⟨b,cap⟩:=p
    refine⟨.slice (some ⟨b,0,none⟩) (List.length (α:=t.den) xs) cap,?_,trivial⟩
    unfold Rep Bh;rw[ho,hm]
  ·rename_i cs ho
   cases h
   obtain⟨b,c,vs,T,h1,_⟩:=hi.obj j _ ho
   refine⟨.pointer (some ⟨b,0,none⟩),?_,trivial⟩
   unfold Rep G0;rw[ho];exact⟨b,c,h1,rfl⟩
  ·rename_i k v es ho
   cases h
   obtain⟨b,c,vs,T,h1,_⟩:=hi.obj j _ ho
   refine⟨.map (some b),?_,trivial⟩
   unfold Rep O7;rw[ho];exact⟨b,c,h1,rfl⟩
  ·rename_i T t is ho
   cases h
   cases hm:m j with
   |none=>
    refine⟨.slice none 0 0,?_,trivial⟩
    unfold Rep Bh;rw[ho,hm];exact⟨none,rfl⟩
   |some p=>
    obtain⟨b,cap⟩:=p
    refine⟨.slice (some ⟨b,0,none⟩) is.length cap,?_,trivial⟩
    unfold Rep Bh;rw[ho,hm]
  ·cases h
theorem AZ4.app{l:Loc}{u:Value}(h:AZ4 w m H bs val l u)(b:Bnd):AZ4 w m H (bs++[b]) val l u:=by
 cases l with
 |tmp t=>exact h
 |cap t i=>trivial
 |obj j=>trivial
 |cell j c=>
  obtain⟨id,b1,cc,vs,T,cs,h1,h2⟩:=h
  exact⟨id,b1,cc,vs,T,cs,by rw[Apu (Bd h1)];exact h1,h2⟩
theorem AnL(hb:∀ j b,bs[j]? = some b→BT w F m H fz m' E.heap j b):∀ (vs:List AV) (ps:List (Nat×Nat)) (us:List Value),Afr bs vs ps=true→Ag w F m H vs us→Ag w F m' E.heap (ps.map fun p=>.ptr p.1 p.2) us:=by
 intro vs
 induction vs with
 |nil=>
  intro ps us h hr
  cases ps with
  |nil=>unfold Ag at *;exact hr
  |cons p ps=>simp[Afr]at h
 |cons v vs ih=>
  intro ps us h hr
  cases ps with
  |nil=>cases v<;>simp[Afr]at h
  |cons p ps=>
   obtain⟨j,o'⟩:=p
   cases v<;>simp only[Afr]at h<;>try (cases h;done)
   rename_i id o
   simp only[ApU]at h
   obtain⟨h1,h2⟩:=h
   unfold Ag at hr
   obtain⟨u,us',rfl,hu,hr⟩:=hr
   simp only[Ap2]
   unfold Ag
   refine⟨u,us',rfl,?_,ih ps us' h2 hr⟩
   split at h1
   ·rename_i id' hj
    simp only[ApU,ApQ]at h1
    obtain⟨rfl,rfl⟩:=h1
    exact Ah9 (hb j _ hj) hu
   ·cases h1
end
end Go.Pev
end
section
namespace Go.Pev
open Go.RowKit
theorem AVs(f g:List Nat):∀ fz,Al (f++g) fz=Al g (Al f fz):=by
 induction f with
 |nil=>intro fz;rfl
 |cons a f ih=>intro fz;simp only[Aps,Al];exact ih _
section
variable {w:World} {H:List Ob} {m:Mp} {val:Nat→Value} {tm:List AV}
theorem Es{fz:List Bool}{id:Nat}(h:Ap fz id=true):fz.getD id false=false:=by
 unfold Ap at h;simpa using h
theorem AZI:∀ (its:AE) (fz:List Bool) (bs:List Bnd) (F:Nat→Prop) (m':Mp) (E:St) (d:Ci (leaves its)) (bs':List Bnd) (fr:List Nat),
  HI w F m H fz→(∀ t v,tm[t]? = some v→Rep w F m H v (val t))→Inv w F m H fz bs m' E val→dec tm H its fz bs=some (d,bs',fr) →
  ∃ F2 m2,Av w F m H fz w F2 m H (Al fr fz)∧Inv w F2 m H (Al fr fz) bs' m2 (enc its d E) val∧∃ r,bs'=bs++r:=by
 intro its
 induction its with
 |nil=>
  intro fz bs F m' E d bs' fr hi ht hv h
  simp only[dec,ApN]at h
  obtain⟨rfl,rfl,rfl⟩:=h
  exact⟨F,m',Av.refl hi,hv,[],by simp⟩
 |cons p r ih=>
  intro fz bs F m' E d bs' fr hi ht hv h
  obtain⟨l,c⟩:=p
  have obj:∀ (b:Bnd) (o:Ob) (lc:Option (Nat×Nat)) (ref:AV) (u:Value) (xs:Ci (leaves r)) (g:List Nat),AZ4 w m H bs val l u→(∀ (i:Nat) (c:Bnd) (id:Nat),bs[i]? = some c→c.id? = some id→b.id?≠some id) →
    BT w F m H fz (upd m' E.heap.length lc) (E.heap++[o]) E.heap.length b→Rep w F (upd m' E.heap.length lc) (E.heap++[o]) ref u→dec tm H r fz (bs++[b])=some (xs,bs',g) →
    ∃ F2 m2,Av w F m H fz w F2 m H (Al g fz)∧Inv w F2 m H (Al g fz) bs' m2 (enc r xs (place (J9 E o) ref l)) val∧∃ r,bs'=bs++r:=by
   intro b o lc ref u xs g hat hid hbd hrep hd
   have h1:=hv.add hid hbd
   have h2:=h1.place (hat.app b) hrep
   obtain⟨F2,m2,a1,a2,rr,a3⟩:=ih fz (bs++[b]) F _ _ xs bs' g hi ht h2 hd
   exact⟨F2,m2,a1,a2,b::rr,by rw[a3];simp⟩
  have ref:∀ (v:AV) (u:Value) (xs:Ci (leaves r)) (g:List Nat),AZ4 w m H bs val l u→Rep w F m' E.heap v u→dec tm H r fz bs=some (xs,bs',g) →
    ∃ F2 m2,Av w F m H fz w F2 m H (Al g fz)∧Inv w F2 m H (Al g fz) bs' m2 (enc r xs (place E v l)) val∧∃ r,bs'=bs++r:=by
   intro v u xs g hat hrep hd
   exact ih fz bs F _ _ xs bs' g hi ht (hv.place hat hrep) hd
  cases c with
  |dat t=>
   simp only[dec]at h
   split at h
   ·rename_i v hl
    split at h
    ·rename_i x f hx
     split at h
     ·rename_i hf
      split at h
      ·rename_i xs bs1 g hd
       simp only[ApN]at h
       obtain⟨rfl,rfl,rfl⟩:=h
       obtain⟨u,hu,hat⟩:=CV hi ht hl
       have hdat:=FD hi hx hu
       have hg:=Av.freeze hi f
       have hv1:=hv.freeze hf
       have hv2:=hv1.place (v:=.data t x) hat (by unfold Rep;exact hdat)
       obtain⟨F2,m2,a1,a2,rr,a3⟩:=ih (Al f fz) bs (Dx F m H f) _ _ xs _ _ hg.2 (fun t v h=>hg.1.rep hi (ht t v h)) hv2 hd
       rw[AVs]
       exact⟨F2,m2,hg.trans a1,a2,rr,a3⟩
      ·cases h
     ·cases h
    ·cases h
   ·cases h
  |own T e=>
   simp only[dec]at h
   split at h
   ·rename_i e' hl
    split at h
    ·rename_i hc
     simp only[ApQ]at hc
     have hsz:=hc
     split at h
     ·rename_i xs bs1 g hd
      simp only[ApN]at h
      obtain⟨rfl,rfl,rfl⟩:=h
      obtain⟨u,hu,hat⟩:=CV hi ht hl
      unfold Rep at hu
      refine obj .none (.arr T e []) none (.own E.heap.length) u xs _ hat (fun _ _ _ _ _=>by simp[Bnd.id?]) ?_ ?_ hd
      ·simp only[BT]
       exact⟨Ar ..,.inl ⟨T,e,by simp,hsz⟩⟩
      ·unfold Rep Bh
       simp only[Apx (ApY _),Arb,Aqd,Ar]
       exact⟨_,hu⟩
     ·cases h
    ·cases h
   ·rename_i id hl
    split at h
    ·rename_i T' e' ys ho hfr
     simp only[ApU]at hfr
     obtain⟨hun,hfr⟩:=hfr
     split at h
     ·rename_i ys' hT hc
      simp only[ApQ]at hT
      subst hT
      obtain⟨he,hy⟩:=EW hc
      subst he
      simp only at hy
      subst hy
      split at h
      ·rename_i xs bs1 g hd
       simp only[ApN]at h
       obtain⟨rfl,rfl,rfl⟩:=h
       obtain⟨u,hu,hat⟩:=CV hi ht hl
       refine obj (.whole id) (.arr T e' ys) (m id) (.own E.heap.length) u xs _ hat (fun i c id' hic hcid => ?_) ?_ ?_ hd
       ·rintro h;simp only[Bnd.id?,ApN]at h;subst h;exact Jw hfr i c hic hcid
       ·simp only[BT]
        exact⟨Ar ..,.inl ⟨T,e',ys,ho,by simp,Es hun⟩⟩
       ·unfold Rep at hu ⊢
        rw[ho]at hu
        rw[Apx (ApY _),Arb,Aqd,Ar]
        exact hu
      ·cases h
     ·cases h
    ·cases h
   ·rename_i id n hl
    split at h
    ·rename_i T' e' ys ho hfr
     simp only[ApU]at hfr
     obtain⟨hun,hfr⟩:=hfr
     split at h
     ·rename_i ys' hT hc
      simp only[ApQ]at hT
      subst hT
      obtain⟨he,hy⟩:=EW hc
      subst he
      simp only at hy
      subst hy
      split at h
      ·rename_i xs bs1 g hd
       simp only[ApN]at h
       obtain⟨rfl,rfl,rfl⟩:=h
       obtain⟨u,hu,hat⟩:=CV hi ht hl
       unfold Rep Gz at hu
       rw[ho]at hu
       obtain⟨hle,hu⟩:=hu
       have hid:∀ (i:Nat) (c:Bnd) (id':Nat),bs[i]? = some c→c.id? = some id'→(Bnd.cut id).id?≠some id':=by
        intro i c id' hic hcid h;simp only[Bnd.id?,ApN]at h;subst h;exact Jw hfr i c hic hcid
       have hget:(E.heap++[Ob.arr T e' (Bu n ys)])[E.heap.length]? = some (Ob.arr T e' (Bu n ys)):=by simp
       obtain⟨hsz,hob⟩:=hi.obj id _ ho
       have hnil:n=0→List.take (α:=e'.den) n ys=[]:=by rintro rfl;simp
       have hlen:List.length (α:=e'.den) (Bu n ys)=n:=by unfold Bu;rw[Api];omega
       cases hm:m id with
       |none=>
        rw[hm]at hob hu
        simp only at hob hu
        subst hob
        have h0:n=0:=by simpa using hle
        subst h0
        obtain⟨a,rfl⟩:=hu
        refine obj (.cut id) (.arr T e' (Bu 0 [])) none (.own E.heap.length) _ xs _ hat hid ?_ ?_ hd
        ·simp only[BT]
         exact⟨T,e',[],0,ho,Es hun,hget,.inl (by rw[Ar,hm])⟩
        ·unfold Rep
         rw[hget,Ar]
         exact⟨a,rfl⟩
       |some p=>
        obtain⟨b,cap⟩:=p
        rw[hm]at hob hu
        obtain⟨a,rfl,ha⟩:=hu
        obtain⟨vs,row,o1,o2,o3,o4,o5,o6⟩:=hob
        by_cases hcap:cap=0
        ·subst hcap
         have h0:n=0:=by omega
         refine obj (.cut id) (.arr T e' (Bu n ys)) none (.own E.heap.length) _ xs _ hat hid ?_ ?_ hd
         ·simp only[BT]
          exact⟨T,e',ys,n,ho,Es hun,hget,.inr ⟨Ar ..,hnil h0⟩⟩
         ·unfold Rep
          rw[hget,Ar]
          exact⟨a,by rw[h0]⟩
        ·refine obj (.cut id) (.arr T e' (Bu n ys)) (m id) (.own E.heap.length) _ xs _ hat hid ?_ ?_ hd
         ·simp only[BT]
          exact⟨T,e',ys,n,ho,Es hun,hget,.inl (Ar ..)⟩
         ·unfold Rep Bh
          rw[hget,Ar,hm]
          have:=ha (by omega)
          rw[this]
          simp[hlen]
      ·cases h
     ·cases h
    ·cases h
   ·cases h
  |box n=>
   simp only[dec]at h
   split at h
   ·rename_i id hl
    split at h
    ·rename_i cs ho hfr
     split at h
     ·rename_i hn
      simp only[ApQ]at hn
      obtain⟨u,hu,hat⟩:=CV hi ht hl
      obtain⟨b,cc,vs,T,b1,b2,b3,b4⟩:=hi.obj id _ ho
      refine obj (.whole id) (.box (List.replicate n .junk)) (m id) (.ptr E.heap.length 0) u d fr hat (fun i c id' hic hcid => ?_) ?_ ?_ h
      ·rintro h;simp only[Bnd.id?,ApN]at h;subst h;exact Jw hfr i c hic hcid
      ·simp only[BT]
       refine⟨Ar ..,.inr (.inr (.inl ⟨cs,List.replicate n .junk,b,cc,vs,T,ho,by simp,by simp[hn],b1,b2,?_,b4⟩))⟩
       refine DI (by rw[Aq b3];simp[hn]) fun i c v hc _ => ?_
       have:=Arc (Apb hc)
       subst this
       unfold Rep;trivial
      ·unfold Rep G0 at hu ⊢
       rw[ho]at hu
       rw[Apx (ApY _),Arb,Aqd,Ar]
       exact hu
     ·cases h
    ·cases h
   ·cases h
  |map k v=>
   simp only[dec]at h
   split at h
   ·rename_i id hl
    split at h
    ·rename_i k' v' es ho hfr
     split at h
     ·rename_i es' hc
      obtain⟨he,hy⟩:=EW hc
      cases he
      simp only at hy
      subst hy
      split at h
      ·rename_i xs bs1 g hd
       simp only[ApN]at h
       obtain⟨rfl,rfl,rfl⟩:=h
       obtain⟨u,hu,hat⟩:=CV hi ht hl
       refine obj (.whole id) (.map k v es) (m id) (.mp E.heap.length) u xs _ hat (fun i c id' hic hcid => ?_) ?_ ?_ hd
       ·rintro h;simp only[Bnd.id?,ApN]at h;subst h;exact Jw hfr i c hic hcid
       ·simp only[BT]
        exact⟨Ar ..,.inr (.inl ⟨k,v,es,ho,by simp⟩)⟩
       ·unfold Rep O7 at hu ⊢
        rw[ho]at hu
        rw[Apx (ApY _),Arb,Aqd,Ar]
        exact hu
      ·cases h
     ·cases h
    ·cases h
   ·cases h
  |own' j=>
   simp only[dec]at h
   split at h
   ·rename_i id id' hl hj
    split at h
    ·rename_i hid
     simp only[ApQ]at hid
     subst hid
     obtain⟨u,hu,hat⟩:=CV hi ht hl
     exact ref (.own j) u d fr hat (Ain (hv.ob j _ hj) hu) h
    ·cases h
   ·cases h
  |ptr' j off=>
   simp only[dec]at h
   split at h
   ·rename_i id o id' hl hj
    split at h
    ·rename_i hid
     simp only[ApU,ApQ]at hid
     obtain⟨rfl,rfl⟩:=hid
     obtain⟨u,hu,hat⟩:=CV hi ht hl
     exact ref (.ptr j o) u d fr hat (Ah9 (hv.ob j _ hj) hu) h
    ·cases h
   ·cases h
  |sub' j=>
   simp only[dec]at h
   split at h
   ·rename_i id off n id' hl hj
    split at h
    ·rename_i hid
     simp only[ApQ]at hid
     subst hid
     split at h
     ·rename_i xs bs1 g hd
      simp only[ApN]at h
      obtain⟨rfl,rfl,rfl⟩:=h
      obtain⟨u,hu,hat⟩:=CV hi ht hl
      exact ref (.win j off n) u xs _ hat (AU2 (hv.ob j _ hj) hu) hd
     ·cases h
    ·cases h
   ·cases h
  |win' j=>
   simp only[dec]at h
   split at h
   ·rename_i id n id' hl hj
    split at h
    ·rename_i hid
     simp only[ApQ]at hid
     subst hid
     split at h
     ·rename_i xs bs1 g hd
      simp only[ApN]at h
      obtain⟨rfl,rfl,rfl⟩:=h
      obtain⟨u,hu,hat⟩:=CV hi ht hl
      exact ref (.win j 0 n) u xs _ hat (AU2 (hv.ob j _ hj) hu) hd
     ·cases h
    ·cases h
   ·rename_i id id' hl hj
    split at h
    ·rename_i T t ys hid ho
     simp only[ApQ]at hid
     subst hid
     split at h
     ·rename_i xs bs1 g hd
      simp only[ApN]at h
      obtain⟨rfl,rfl,rfl⟩:=h
      obtain⟨u,hu,hat⟩:=CV hi ht hl
      exact ref (.win j 0 ys.length) u xs _ hat (AU2 (hv.ob j _ hj) (AmI hi ho hu)) hd
     ·cases h
    ·cases h
   ·cases h
  |map' j=>
   simp only[dec]at h
   split at h
   ·rename_i id id' hl hj
    split at h
    ·rename_i hid
     simp only[ApQ]at hid
     subst hid
     obtain⟨u,hu,hat⟩:=CV hi ht hl
     exact ref (.mp j) u d fr hat (Ao2 (hv.ob j _ hj) hu) h
    ·cases h
   ·cases h
  |clo f ps=>
   simp only[dec]at h
   split at h
   ·rename_i f' vs hl
    split at h
    ·rename_i hc
     simp only[ApU,ApQ]at hc
     obtain⟨rfl,hc⟩:=hc
     obtain⟨u,hu,hat⟩:=CV hi ht hl
     unfold Rep at hu
     obtain⟨cs,rfl,hr⟩:=hu
     exact ref (.clo f (ps.map fun p=>.ptr p.1 p.2)) _ d fr hat (by unfold Rep;exact⟨cs,rfl,AnL hv.ob vs ps cs.toList hc hr⟩) h
    ·cases h
   ·cases h
  |bnd f j=>
   simp only[dec]at h
   split at h
   ·rename_i f' id id' hl hj
    split at h
    ·rename_i hc
     simp only[ApU,ApQ]at hc
     obtain⟨rfl,rfl⟩:=hc
     obtain⟨u,hu,hat⟩:=CV hi ht hl
     unfold Rep at hu
     obtain⟨cs,rfl,hr⟩:=hu
     refine ref (.bnd f [.own j]) _ d fr hat ?_ h
     unfold Rep
     refine⟨cs,rfl,?_⟩
     unfold Ag at hr ⊢
     obtain⟨x,xs,e1,e2,e3⟩:=hr
     refine⟨x,xs,e1,Ain (hv.ob j _ hj) e2,?_⟩
     unfold Ag at e3 ⊢
     exact e3
    ·cases h
   ·cases h
  |prs T j=>
   simp only[dec]at h
   split at h
   ·rename_i e' hl
    split at h
    ·rename_i xs bs1 g hd
     simp only[ApN]at h
     obtain⟨rfl,rfl,rfl⟩:=h
     obtain⟨u,hu,hat⟩:=CV hi ht hl
     unfold Rep at hu
     refine obj .none (.prs T j []) none (.own E.heap.length) u xs _ hat (fun _ _ _ _ _=>by simp[Bnd.id?]) ?_ ?_ hd
     ·simp only[BT]
      exact⟨Ar ..,.inr ⟨T,j,by simp⟩⟩
     ·unfold Rep Bh
      simp only[Apx (ApY _),Arb,Aqd,Ar]
      exact⟨_,hu⟩
    ·cases h
   ·rename_i id hl
    split at h
    ·rename_i T' tgt is tgt' ho hfr hj
     split at h
     ·rename_i hT
      simp only[ApU,ApQ]at hT
      obtain⟨rfl,rfl⟩:=hT
      split at h
      ·rename_i xs bs1 g hd
       simp only[ApN]at h
       obtain⟨rfl,rfl,rfl⟩:=h
       obtain⟨u,hu,hat⟩:=CV hi ht hl
       have hbj:=hv.ob j _ hj
       have hob:=hi.obj id _ ho
       have hcomp:C7 E.heap (E.heap++[.prs T j is]) m' (upd m' E.heap.length (m id)):=by
        intro i x hi hf
        have hlt:=At hi
        rcases C7.refl E.heap m' i x hi hf with h|⟨hd,o',h4,h5,_⟩
        ·exact .inl (by rw[Apu hlt];exact h)
        ·exact .inr ⟨hd,o',by rw[Apu hlt];exact h4,h5,BU (by omega)⟩
       have hob':ObI w F (upd m' E.heap.length (m id)) (E.heap++[.prs T j is]) (.prs T j is) (m id):=by
        cases hm:m id with
        |none=>rw[hm]at hob;exact hob
        |some p=>
         obtain⟨b,cap⟩:=p
         rw[hm]at hob hcomp
         obtain⟨vs,us,e1,e2,e3,e4,e5,e6⟩:=hob
         exact⟨vs,us,e1,e2,e3,e4,Ag.mono (fun _ _=>rfl) (fun _ h=>h) hcomp _ (Al5 hbj e5),e6⟩
       refine obj (.whole id) (.prs T j is) (m id) (.own E.heap.length) u xs _ hat (fun i c id' hic hcid => ?_) ?_ ?_ hd
       ·rintro h;simp only[Bnd.id?,ApN]at h;subst h;exact Jw hfr i c hic hcid
       ·simp only[BT]
        exact⟨Ar ..,.inr (.inr (.inr ⟨T,tgt,j,is,ho,by simp,hob'⟩))⟩
       ·unfold Rep at hu ⊢
        rw[ho]at hu
        rw[Apx (ApY _),Arb,Aqd,Ar]
        exact hu
      ·cases h
     ·cases h
    ·cases h
   ·cases h
  |nil e=>
   simp only[dec]at h
   cases hl:look tm H bs l with
   |none=>rw[hl]at h;cases h
   |some v=>
    rw[hl]at h
    cases v with
    |nils e'=>
     obtain⟨u,hu,hat⟩:=CV hi ht hl
     exact ref (.nils e) u d fr hat (by unfold Rep at *;exact hu) h
    |_=>cases h
end
end Go.Pev
end
section
namespace Go.Pev
open Go.RowKit
structure Wo(np:Nat)(w:World)(F:Nat→Prop)(m:Mp)(H:List Ob)(fz:List Bool)(w':World)(F':Nat→Prop)(m':Mp)(H':List Ob)(fz':List Bool):Prop where
 os:w'.os=w.os
 tape:w'.tape=w.tape
 output:w'.output=w.output
 size:w.heap.size≤w'.heap.size
 keep:∀ b,b<w.heap.size→(∀ i c,owned H fz i→m i≠some (b,c))→w'.heap[b]? = w.heap[b]?
 sub:∀ b,F b→F' b
 bnd:∀ b,F' b→F b∨(∃ i c,owned H fz i∧m i=some (b,c))∨w.heap.size≤b
 own:∀ i b c,owned H' fz' i→m' i=some (b,c)→(∃ i c,owned H fz i∧m i=some (b,c))∨w.heap.size≤b
 comp:∀ i o,i<np→H[i]? = some o→o≠.free→H'[i]? = some .dead∨(o≠.dead∧∃ o',H'[i]? = some o'∧sameShape o o'∧m' i=m i)
theorem Ext.toN{w w':World}{F F':Nat→Prop}{m m':Mp}{H H':List Ob}{fz fz':List Bool}(h:Ext w F m H fz w' F' m' H' fz')(np:Nat):Wo np w F m H fz w' F' m' H' fz':=
 ⟨h.os,h.tape,h.output,h.size,h.keep,h.sub,h.bnd,h.own,fun i o _=>h.comp i o⟩
theorem Wo.refl(np:Nat)(w:World)(F:Nat→Prop)(m:Mp)(H:List Ob)(fz:List Bool):Wo np w F m H fz w F m H fz:=(Ext.refl ..).toN np
theorem Wo.trans{np:Nat}{w w1 w2:World}{F F1 F2:Nat→Prop}{m m1 m2:Mp}{H H1 H2:List Ob}{fz fz1 fz2:List Bool}
  (h:Wo np w F m H fz w1 F1 m1 H1 fz1) (k:Wo np w1 F1 m1 H1 fz1 w2 F2 m2 H2 fz2):Wo np w F m H fz w2 F2 m2 H2 fz2 where
 os:=k.os.trans h.os
 tape:=k.tape.trans h.tape
 output:=k.output.trans h.output
 size:=AqN h.size k.size
 keep b hb hn:=by
  rw[k.keep b (ArA hb h.size) ?_,h.keep b hb hn]
  intro i c ho he
  rcases h.own i b c ho he with⟨i',c',h1,h2⟩|h1
  ·exact hn i' c' h1 h2
  ·omega
 sub b hb:=k.sub b (h.sub b hb)
 bnd b hb:=by
  rcases k.bnd b hb with h1|⟨i,c,h1,h2⟩|h1
  ·exact h.bnd b h1
  ·rcases h.own i b c h1 h2 with h3|h3
   ·exact .inr (.inl h3)
   ·exact .inr (.inr h3)
  ·exact .inr (.inr (AqN h.size h1))
 own i b c h1 h2:=by
  rcases k.own i b c h1 h2 with⟨i',c',h3,h4⟩|h3
  ·exact h.own i' b c' h3 h4
  ·exact .inr (AqN h.size h3)
 comp i o hlt ho hf:=by
  rcases h.comp i o hlt ho hf with h1|⟨hd,o',h1,h2,h3⟩
  ·rcases k.comp i _ hlt h1 (by simp)with h4|⟨h5,_⟩
   ·exact .inl h4
   ·exact absurd rfl h5
  ·have hf':o'≠.free:=by rintro rfl;cases o<;>simp[sameShape]at h2
   rcases k.comp i o' hlt h1 hf' with h4|⟨_,o'',h4,h5,h6⟩
   ·exact .inl h4
   ·exact .inr ⟨hd,o'',h4,h2.trans h5,h6.trans h3⟩
section
variable {w:World} {F:Nat→Prop} {m:Mp} {H:List Ob} {fz:List Bool} {bs:List Bnd} {m':Mp} {E:St} {val:Nat→Value}
theorem Inv.src(h:Inv w F m H fz bs m' E val){i b c:Nat}(ho:owned E.heap E.frz i)(hm:m' i=some (b,c)):∃ x id,bs[i]? = some x∧x.id? = some id∧owned H fz id∧m id=some (b,c):=by
 obtain⟨o,hio,_,_⟩:=CA ho
 have hlt:=At hio
 rw[h.lenH]at hlt
 have hx:bs[i]? = some bs[i]:=ApO hlt
 have hb:=h.ob i _ hx
 cases hc:bs[i]with
 |none=>rw[hc]at hb;simp only[BT]at hb;rw[hb.1]at hm;cases hm
 |whole id=>
  rw[hc]at hb hx
  simp only[BT]at hb
  obtain⟨e,hb⟩:=hb
  refine⟨_,id,hx,rfl,?_,by rw[← e];exact hm⟩
  unfold owned
  rcases hb with⟨T,t,xs,a1,_,a3⟩|⟨k,v,es,a1,_⟩|⟨cs,cs',b,c,vs,T,a1,_⟩|⟨_,_,_,_,a1,_⟩
  ·rw[a1];exact a3
  ·rw[a1];trivial
  ·rw[a1];trivial
  ·rw[a1];trivial
 |cut id=>
  rw[hc]at hb hx
  simp only[BT]at hb
  obtain⟨T,t,xs,n,a1,a2,a3,a4⟩:=hb
  refine⟨_,id,hx,rfl,by unfold owned;rw[a1];exact a2,?_⟩
  rcases a4 with a4|⟨a4,_⟩
  ·rw[← a4];exact hm
  ·rw[a4]at hm;cases hm
theorem Inv.hi(hi:HI w F m H fz)(h:Inv w F m H fz bs m' E val):HI w F m' E.heap E.frz where
 obj j o hj:=by
  have hlt:=At hj
  rw[h.lenH]at hlt
  have hx:bs[j]? = some bs[j]:=ApO hlt
  have hb:=h.ob j _ hx
  cases hc:bs[j]with
  |none=>
   rw[hc]at hb
   simp only[BT]at hb
   obtain⟨e1,⟨T,e,e2,e3⟩|⟨T,t,e2⟩⟩:=hb
   ·rw[hj]at e2;cases e2
    exact⟨e3,by rw[e1]⟩
   ·rw[hj]at e2;cases e2
    rw[e1]
    exact(rfl:([]:List Int)=[])
  |whole id=>
   rw[hc]at hb
   simp only[BT]at hb
   obtain⟨e,hb⟩:=hb
   rcases hb with⟨T,t,xs,a1,a2,a3⟩|⟨k,v,es,a1,a2⟩|⟨cs,cs',b,c,vs,T,a1,a2,_,a4,a5,a6,a7⟩|⟨T,tgt,j0,is,a1,a2,a3⟩
   ·rw[hj]at a2;cases a2
    rw[e];exact hi.obj id _ a1
   ·rw[hj]at a2;cases a2
    rw[e];exact hi.obj id _ a1
   ·rw[hj]at a2;cases a2
    exact⟨b,c,vs,T,e.trans a4,a5,a6,a7⟩
   ·rw[hj]at a2;cases a2
    rw[e];exact a3
  |cut id=>
   rw[hc]at hb
   simp only[BT]at hb
   obtain⟨T,t,xs,n,a1,a2,a3,a4⟩:=hb
   rw[hj]at a3;cases a3
   obtain⟨h0,h1⟩:=hi.obj id _ a1
   refine⟨h0,?_⟩
   rcases a4 with a4|⟨a4,a5⟩
   ·rw[a4]
    cases hm:m id with
    |none=>
     rw[hm]at h1
     simp only at h1 ⊢
     rw[h1];simp
    |some p=>
     obtain⟨b,cap⟩:=p
     rw[hm]at h1
     simp only at h1 ⊢
     obtain⟨vs,row,b1,b2,b3,b4,b5,b6⟩:=h1
     refine⟨vs,row.take (n*t.size),b1,?_,b3,b4,Df (fun x cs hx=>Dat.length t hx) n b5,?_⟩
     ·rw[Api];omega
     ·rw[Api,← Arf,b6]
   ·rw[a4];exact a5
 sep i j b c b' c' h1 h2 hij h3 h4:=by
  obtain⟨x,id,k1,k2,k3,k4⟩:=h.src h1 h3
  obtain⟨y,id',l1,l2,l3,l4⟩:=h.src h2 h4
  refine hi.sep id id' b c b' c' k3 l3 ?_ k4 l4
  rintro rfl
  exact hij (h.inj i j x y id k1 l1 k2 l2)
 off i b c h1 h2:=by
  obtain⟨x,id,k1,k2,k3,k4⟩:=h.src h1 h2
  exact hi.off id b c k3 k4
 froz i T t xs b c h1 h2:=by rw[h.frz i]at h2;cases h2
 lt:=hi.lt
 len:=h.lenF.symm
theorem AQ4:∀ (n i:Nat) (bs:List Bnd),pins n i bs=true→∀ k,k<n→bs[k]? = some (.whole (i+k)):=by
 intro n
 induction n with
 |zero=>intro i bs _ k hk;omega
 |succ n ih=>
  intro i bs h k hk
  cases bs with
  |nil=>simp[pins]at h
  |cons b bs=>
   simp only[pins,ApU,ApQ]at h
   cases k with
   |zero=>simp[h.1]
   |succ k=>
    have:=ih (i+1) bs h.2 k (by omega)
    simp only[Ar1]
    rw[this];congr 2;omega
theorem Inv.blank{val:Nat→Value}(n:Nat):Inv w F m H fz [] (fun _=>none) (Pev.blank n) val where
 tmps t:=by
  have:(Pev.blank n).tmps.getD t .junk = .junk:=by
   simp only[Pev.blank,ApP,Asb]
   split<;>rfl
  rw[this];unfold Rep;trivial
 lenH:=rfl
 lenF:=rfl
 frz i:=by simp[Pev.blank]
 ob j b h:=by simp at h
 inj i j b c id h:=by simp at h
theorem AWi(st:St)(v:AV)(l:Loc):(place st v l).tmps.length=st.tmps.length:=by
 cases l with
 |tmp t=>simp[place]
 |cell j c=>simp only[place];split<;>rfl
 |cap t i=>rfl
 |obj j=>rfl
theorem AkK:∀ (its:AE) (d:Ci (leaves its)) (st:St),(enc its d st).tmps.length=st.tmps.length:=by
 intro its
 induction its with
 |nil=>intro d st;rfl
 |cons p r ih=>
  intro d st
  obtain⟨l,c⟩:=p
  cases c<;>exact(ih _ _).trans (AWi _ _ _)
theorem Mv(n:Nat)(its:AE)(d:Ci (leaves its)):(encode n its d).tmps.length=n:=by
 unfold encode;rw[AkK];simp[blank]
theorem AdU{F2:Nat→Prop}{fz2:List Bool}{np:Nat}(h:Inv w F2 m H fz2 bs m' E val)(hp:pins np 0 bs=true):∀ i o,i<np→H[i]? = some o→o≠.free→E.heap[i]? = some .dead∨(o≠.dead∧∃ o',E.heap[i]? = some o'∧sameShape o o'∧m' i=m i):=by
 intro i o hlt ho hf
 have h1:=AQ4 np 0 bs hp i hlt
 rw[Aqe]at h1
 have hb:=h.ob i _ h1
 simp only[BT]at hb
 obtain⟨e,hb⟩:=hb
 right
 rcases hb with⟨T,t,xs,a1,a2,a3⟩|⟨k,v,es,a1,a2⟩|⟨cs,cs',b,c,vs,T,a1,a2,_,a4,a5,a6,a7⟩|⟨_,_,_,_,a1,a2,_⟩
 ·rw[ho]at a1;cases a1;exact⟨by simp,_,a2,⟨rfl,rfl⟩,e⟩
 ·rw[ho]at a1;cases a1;exact⟨by simp,_,a2,trivial,e⟩
 ·rw[ho]at a1;cases a1;exact⟨by simp,_,a2,trivial,e⟩
 ·rw[ho]at a1;cases a1;exact⟨by simp,_,a2,rfl,e⟩
theorem WK{np nt:Nat}{st:St}{a:Act}{its:AE}{v:Ci (leaves its)}(hs:SI w F m st a)(h:decode np nt st its=some v):
  ∃ F' m',SI w F' m' (encode nt its v) a∧Wo np w F m st.heap st.frz w F' m' (encode nt its v).heap (encode nt its v).frz:=by
 unfold decode at h
 split at h
 ·rename_i hn
  simp only[ApQ]at hn
  split at h
  ·rename_i v' bs fr hd
   split at h
   ·rename_i hp
    simp only[ApN]at h;subst h
    obtain⟨F2,m2,hg,hv,_⟩:=AZI (val:=fun t=>a.tmps.getD t undef) its st.frz [] F (fun _=>none) (blank nt) v' bs fr hs.heap
     (fun t v ht=>by have:=hs.tmps t;rw[ApP,ht]at this;exact this) (Inv.blank nt) hd
    refine⟨F2,m2,⟨hv.tmps,by rw[Mv,← hn];exact hs.size,hv.hi hg.2,hs.defers⟩,?_⟩
    refine⟨rfl,rfl,rfl,ApY _,fun _ _ _=>rfl,hg.1.sub,hg.1.bnd,fun i b c h1 h2 => ?_,AdU hv hp⟩
    obtain⟨x,id,k1,k2,k3,k4⟩:=hv.src h1 h2
    exact hg.1.own id b c k3 k4
   ·cases h
  ·cases h
 ·cases h
end
end Go.Pev
end
section
namespace Go.Pev
open Go.RowKit
theorem X3{R:Type}{all:List Oper}{g:Option (Nat×Bool)}{st:St}{yes no:St→Option R}{r:R}(h:guarded R all g st yes no=some r):
  ∃ st',(yes st'=some r∧∀ (R':Type) (yes' no':St→Option R'),guarded R' all g st yes' no'=yes' st')∨(no st'=some r∧∀ (R':Type) (yes' no':St→Option R'),guarded R' all g st yes' no'=no' st'):=by
 unfold guarded at h
 split at h
 ·exact⟨st,.inl ⟨h,fun _ _ _=>by simp[guarded]⟩⟩
 ·rename_i j want
  split at h
  ·cases h
  ·rename_i d hj
   split at h
   ·rename_i b hd
    cases b with
    |true=>
     cases want with
     |true=>exact⟨_,.inl ⟨h,fun _ _ _=>by simp only[guarded,hj,hd]⟩⟩
     |false=>exact⟨_,.inr ⟨h,fun _ _ _=>by simp only[guarded,hj,hd]⟩⟩
    |false=>
     cases want with
     |true=>exact⟨_,.inr ⟨h,fun _ _ _=>by simp only[guarded,hj,hd]⟩⟩
     |false=>exact⟨_,.inl ⟨h,fun _ _ _=>by simp only[guarded,hj,hd]⟩⟩
   ·rename_i hd
    exact⟨_,.inr ⟨h,fun _ _ _=>by simp only[guarded,hj,hd]⟩⟩
   ·cases h
section
variable {P:Program} {E:Env} {h:Hints}
theorem AWs(hE:∀ g,AO P g (E.spec g)){R:Type}{r:R}{all:List Oper}:∀ (ops:List Oper) (slot:Nat) (st:St) (k:St→Option R),I9 P E R all ops slot st k=some r →
  ∃ st',k st'=some r∧∀ (R':Type) (k':St→Option R'),I9 P E R' all ops slot st k'=k' st':=by
 intro ops
 induction ops with
 |nil=>intro slot st k h;exact⟨st,h,fun _ _=>rfl⟩
 |cons o ops ih=>
  intro slot st k h
  simp only[I9]at h
  obtain⟨st1,h1⟩:=X3 h
  rcases h1 with⟨h1,h2⟩|⟨h1,h2⟩
  ·obtain⟨v,e,h3,h4,_⟩:=J0 hE o.op _ _ _ _ _ _ _ r h1
   obtain⟨st2,h5,h6⟩:=ih _ _ _ h3
   exact⟨st2,h5,fun R' k'=>by simp only[I9];rw[h2,h4];exact h6 R' k'⟩
  ·obtain⟨st2,h5,h6⟩:=ih _ _ _ h1
   exact⟨st2,h5,fun R' k'=>by simp only[I9];rw[h2];exact h6 R' k'⟩
theorem AcY(hE:∀ g,AO P g (E.spec g)){R:Type}{r:R}{all:List Oper}{o:Oper}{φ:List Nat}{slot:Nat}{st:St}{k:St→Option R}(h:XP P E R all o φ slot st k=some r):
  ∃ st',k st'=some r∧∀ (R':Type) (k':St→Option R'),XP P E R' all o φ slot st k'=k' st':=by
 unfold XP at h
 obtain⟨st1,h1⟩:=X3 h
 rcases h1 with⟨h1,h2⟩|⟨h1,h2⟩
 ·split at h1
  ·rename_i hw
   obtain⟨v,e,h3,h4,_⟩:=J0 hE o.op _ _ _ _ _ _ _ r h1
   split at h3
   ·rename_i hok
    exact⟨_,h3,fun R' k'=>by unfold XP;rw[h2];simp only[hw];rw[h4];simp only[hok]⟩
   ·cases h3
  ·cases h1
 ·exact⟨_,h1,fun R' k'=>by unfold XP;rw[h2]⟩
theorem ARA(hE:∀ g,AO P g (E.spec g)){R:Type}{r:R}{all:List Oper}:∀ (ops:List Oper) (fp:List (List Nat)) (slot:Nat) (st:St) (k:St→Option R),IU P E R all ops fp slot st k=some r →
  ∃ st',k st'=some r∧∀ (R':Type) (k':St→Option R'),IU P E R' all ops fp slot st k'=k' st':=by
 intro ops
 induction ops with
 |nil=>intro fp slot st k h;exact⟨st,h,fun _ _=>rfl⟩
 |cons o ops ih=>
  intro fp slot st k h
  simp only[IU]at h
  obtain⟨st1,h1,h2⟩:=AcY hE h
  obtain⟨st2,h5,h6⟩:=ih _ _ _ _ h1
  exact⟨st2,h5,fun R' k'=>by simp only[IU];rw[h2];exact h6 R' k'⟩
def ApI(P:Program)(np:Nat)(c:Code)(st:St)(e:Exit)(st':St):Prop:=
 ∀ (w:World) (F:Nat→Prop) (m:Mp) (a:Act) (Q:Exit→Act→World→Prop),SI w F m st a →
  (∀ a' w' F' m',SI w' F' m' st' a'→Wo np w F m st.heap st.frz w' F' m' st'.heap st'.frz→Q e a' w')→c.wp P Q a w
def Aa(P:Program)(np:Nat)(c:Code)(go:(R:Type)→St→(Exit→St→Option R)→Option R):Prop:=
 ∀ (R:Type) (st:St) (k:Exit→St→Option R) (r:R),go R st k=some r→∃ e st',k e st'=some r∧(∀ (R':Type) (k':Exit→St→Option R'),go R' st k'=k' e st')∧ApI P np c st e st'
def Du(P:Program)(np:Nat)(h:Hints):Code→Nat→Prop
 |.seq a b,n=>Du P np h a n∧Du P np h b (n+loops a)
 |.cond _ a b,n=>Du P np h a n∧Du P np h b (n+loops a)
 |.block _ c,n=>Du P np h c n
 |.loop c,n=>Aa P np (.loop c) (h.loop n)
 |_,_=>True
theorem Abf{w:World}{F:Nat→Prop}{m:Mp}{st:St}{a:Act}(hs:SI w F m st a){c:Operand}{x:Bool}(hc:BL st.tmps c = .data .bool x):
  a.eval c = .bool x∧SI w F m { st with tmps:=PO st.tmps c x } a:=by
 have h1:Rep w F m st.heap (BL st.tmps c) (a.eval c):=ADm hs.tmps c
 rw[hc]at h1
 refine⟨?_,?_⟩
 ·unfold Rep Bj at h1
  simp only[Ty.isAgg,Apc,Apf]at h1
  simpa [Dat]using h1
 ·cases c with
  |tmp t=>
   simp only[BL,ApP]at hc
   exact hs.lit (d:=t) (b:=x) (by
    cases ht:st.tmps[t]? with
    |none=>rw[ht]at hc;simp at hc
    |some v=>rw[ht]at hc;simp at hc;rw[hc])
  |const v=>exact hs
  |func f=>exact hs
  |global g=>exact hs
theorem Pc(hE:∀ g,AO P g (E.spec g))(hL:Ir E){np:Nat}:∀ (c:Code) (n:Nat),Du P np h c n→Aa P np c (fun R=>BB P E h R c n):=by
 intro c
 induction c with
 |skip=>
  intro n _ R st k r hk
  simp only[BB]at hk
  exact⟨_,_,hk,fun _ _=>rfl,fun w F m a Q hs hq=>wp_skip (hq a w F m hs (Wo.refl ..))⟩
 |region id ops draw=>
  intro n _ R st k r hk
  cases draw with
  |false=>
   simp only[BB,HM]at hk
   obtain⟨st',h1,h2⟩:=AWs hE _ _ _ _ hk
   refine⟨.normal,st',h1,fun R' k'=>by simp only[BB,HM];exact h2 R' _,fun w F m a Q hs hq => ?_⟩
   have h3:HM P E St ops.toList st some=some st':=by simp only[HM];exact h2 St some
   refine ALx hE h3 hs fun a' w' hp => ?_
   obtain⟨st1,F',m',e1,e2,e3⟩:=hp
   cases e1
   exact hq a' w' F' m' e2 (e3.toN np)
  |true=>
   simp only[BB]at hk
   have hk':=hk
   unfold EN at hk
   split at hk
   ·rename_i hok
    obtain⟨st',h1,h2⟩:=ARA hE _ _ _ _ _ hk
    refine⟨.normal,st',h1,fun R' k'=>by simp only[BB,EN,hok];exact h2 R' _,fun w F m a Q hs hq => ?_⟩
    have h3:EN P E St (h.fp id) ops.toList st some=some st':=by simp only[EN,hok];exact h2 St some
    refine AGl hE hL h3 hs fun a' w' hp => ?_
    obtain⟨st1,F',m',e1,e2,e3⟩:=hp
    cases e1
    exact hq a' w' F' m' e2 (e3.toN np)
   ·cases hk
 |seq a b iha ihb=>
  intro n hl R st k r hk
  simp only[BB]at hk
  obtain⟨e,st1,h1,h2',h3⟩:=iha n hl.1 R st _ r hk
  have h2:∀ (R':Type) (k':Exit→St→Option R'),BB P E h R' a n st k'=k' e st1:=h2'
  by_cases he:e = .normal
  ·subst he
   simp only at h1
   obtain⟨e2,st2,k1,k2,k3⟩:=ihb _ hl.2 R st1 _ r h1
   refine⟨e2,st2,k1,fun R' k' => ?_,fun w F m act Q hs hq=>wp_seq ?_⟩
   ·simp only[BB];rw[h2];exact k2 R' k'
   ·refine h3 w F m act _ hs fun a' w' F' m' s1 x1 => ?_
    exact k3 w' F' m' a' Q s1 fun a2 w2 F2 m2 s2 x2=>hq a2 w2 F2 m2 s2 (x1.trans x2)
  ·have h1':k e st1=some r:=by cases e<;>first|exact absurd rfl he|exact h1
   refine⟨e,st1,h1',fun R' k' => ?_,fun w F m act Q hs hq=>wp_seq ?_⟩
   ·simp only[BB];rw[h2];cases e<;>first|exact absurd rfl he|rfl
   ·refine h3 w F m act _ hs fun a' w' F' m' s1 x1 => ?_
    have:=hq a' w' F' m' s1 x1
    cases e<;>first|exact absurd rfl he|exact this
 |cond c a b iha ihb=>
  intro n hl R st k r hk
  simp only[BB]at hk
  split at hk
  ·rename_i x hc
   cases x with
   |true=>
    obtain⟨e,st1,h1,h2,h3⟩:=iha _ hl.1 R _ _ r hk
    refine⟨e,st1,h1,fun R' k'=>by simp only[BB,hc];exact h2 R' k',fun w F m act Q hs hq => ?_⟩
    obtain⟨q1,q2⟩:=Abf hs hc
    exact wp_cond_true q1 (h3 w F m act Q q2 hq)
   |false=>
    obtain⟨e,st1,h1,h2,h3⟩:=ihb _ hl.2 R _ _ r hk
    refine⟨e,st1,h1,fun R' k'=>by simp only[BB,hc];exact h2 R' k',fun w F m act Q hs hq => ?_⟩
    obtain⟨q1,q2⟩:=Abf hs hc
    exact wp_cond_false q1 (h3 w F m act Q q2 hq)
  ·cases hk
 |block id c ih=>
  intro n hl R st k r hk
  simp only[BB]at hk
  obtain⟨e,st1,h1,h2',h3⟩:=ih n hl R st _ r hk
  have h2:∀ (R':Type) (k':Exit→St→Option R'),BB P E h R' c n st k'=k' e st1:=h2'
  have key:∃ e',k e' st1=some r∧(∀ (R':Type) (k':Exit→St→Option R'),BB P E h R' (.block id c) n st k'=k' e' st1)∧∀ (Q:Exit→Act→World→Prop) a' w',Q e' a' w'→Exit.inBlock id Q e a' w':=by
   cases e with
   |exit id'=>
    simp only at h1
    by_cases hid:id'=id
    ·subst hid
     simp only[Apn]at h1
     exact⟨.normal,h1,fun R' k'=>by simp only[BB];rw[h2];simp,fun Q a' w' hq=>by simp[Exit.inBlock,hq]⟩
    ·simp only[hid,Ap8]at h1
     exact⟨.exit id',h1,fun R' k'=>by simp only[BB];rw[h2];simp[hid],fun Q a' w' hq=>by simp[Exit.inBlock,hid,hq]⟩
   |normal=>exact⟨_,h1,fun R' k'=>by simp only[BB];rw[h2],fun Q a' w' hq=>hq⟩
   |goto l=>exact⟨_,h1,fun R' k'=>by simp only[BB];rw[h2],fun Q a' w' hq=>hq⟩
   |ret=>exact⟨_,h1,fun R' k'=>by simp only[BB];rw[h2],fun Q a' w' hq=>hq⟩
   |panic l=>exact⟨_,h1,fun R' k'=>by simp only[BB];rw[h2],fun Q a' w' hq=>hq⟩
   |outgrown=>exact⟨_,h1,fun R' k'=>by simp only[BB];rw[h2],fun Q a' w' hq=>hq⟩
  obtain⟨e',k1,k2,k3⟩:=key
  exact⟨e',st1,k1,k2,fun w F m act Q hs hq=>wp_block (h3 w F m act _ hs fun a' w' F' m' s1 x1=>k3 Q a' w' (hq a' w' F' m' s1 x1))⟩
 |loop c ih=>
  intro n hl R st k r hk
  exact hl R st k r hk
 |exit id=>
  intro n _ R st k r hk
  simp only[BB]at hk
  exact⟨_,_,hk,fun _ _=>rfl,fun w F m a Q hs hq=>wp_exit (hq a w F m hs (Wo.refl ..))⟩
 |ret=>
  intro n _ R st k r hk
  simp only[BB]at hk
  exact⟨_,_,hk,fun _ _=>rfl,fun w F m a Q hs hq=>wp_ret (hq a w F m hs (Wo.refl ..))⟩
 |_=>intro n _ R st k r hk;simp[BB]at hk
theorem Aes{R:Type}{r:R}{nt:Nat}{k:Exit→St→Option R}:∀ (os:Ao) (x:AHi os),AI4 nt k os x=some r→∃ e st',k e st'=some r∧∀ (R':Type) (k':Exit→St→Option R'),AI4 nt k' os x=k' e st':=by
 intro os
 induction os with
 |nil=>intro x h;simp[AI4]at h
 |cons o os ih=>
  intro x h
  cases x with
  |inl d=>exact⟨_,_,h,fun _ _=>rfl⟩
  |inr x=>
   obtain⟨e,st',h1,h2⟩:=ih x h
   exact⟨e,st',h1,fun R' k'=>h2 R' k'⟩
theorem AQL{e e':Exit}(h:AA2 e e'=true):e=e':=by
 cases e<;>cases e'<;>simp_all [AA2]
theorem Aio{np nt:Nat}{e:Exit}{st:St}:∀ (os:Ao) (x:AHi os),AIe np nt e st os=some x→∃ its d,decode np nt st its=some d∧∀ (R':Type) (k':Exit→St→Option R'),AI4 nt k' os x=k' e (encode nt its d):=by
 intro os
 induction os with
 |nil=>intro x h;simp[AIe]at h
 |cons o os ih=>
  intro x h
  simp only[AIe]at h
  split at h
  ·rename_i hs
   split at h
   ·rename_i d hd
    simp only[ApN]at h;subst h
    exact⟨o.2,d,hd,fun R' k'=>by rw[AQL hs];rfl⟩
   ·cases h
  ·split at h
   ·rename_i y hy
    simp only[ApN]at h;subst h
    obtain⟨its,d,h1,h2⟩:=ih y hy
    exact⟨its,d,h1,fun R' k'=>h2 R' k'⟩
   ·cases h
theorem AeI{h':Hints}(hE:∀ g,AO P g (E.spec g))(hL:Ir E){np nt n:Nat}{body:Code}{its:AE}{os:Ao}{stp:Ci (leaves its)→Option (Ci (leaves its)⊕AHi os)}
  (hstep:∀ v,stp v=roundOf P E h' n np nt body its os v) (hl:Du P np h' body n):Aa P np (.loop body) (Ab np nt its os stp):=by
 intro R st k r hk
 unfold Ab at hk
 split at hk
 ·cases hk
 ·rename_i v hv
  split at hk
  ·cases hk
  ·rename_i x hx
   obtain⟨e,st',h1,h2⟩:=Aes os x hk
   refine⟨e,st',h1,fun R' k'=>by simp only[Ab,hv,hx];exact h2 R' k',?_⟩
   have key:∀ (fuel:Nat) (v:Ci (leaves its)),Aj stp fuel v=some x→∀ (w:World) (F:Nat→Prop) (m:Mp) (a:Act) (Q:Exit→Act→World→Prop),SI w F m (encode nt its v) a →
     (∀ a' w' F' m',SI w' F' m' st' a'→Wo np w F m (encode nt its v).heap (encode nt its v).frz w' F' m' st'.heap st'.frz→Q e a' w')→Code.rounds P body Q fuel a w:=by
    intro fuel
    induction fuel with
    |zero=>intro v h;simp[Aj]at h
    |succ fuel ih=>
     intro v h w F m a Q hs hq
     simp only[Aj]at h
     rw[hstep v]at h
     cases hr:roundOf P E h' n np nt body its os v with
     |none=>rw[hr]at h;cases h
     |some y=>
      rw[hr]at h
      unfold roundOf at hr
      obtain⟨e1,st1,g1,_,g3⟩:=Pc hE hL body n hl _ _ _ _ hr
      show body.wp P (Exit.then (Code.rounds P body Q fuel) Q) a w
      refine g3 w F m a _ hs fun a' w' F' m' s1 x1 => ?_
      by_cases he:e1 = .normal
      ·subst he
       simp only[AQg]at g1
       split at g1
       ·rename_i d hd
        simp only[ApN]at g1;subst g1
        obtain⟨F2,m2,s2,x2⟩:=WK s1 hd
        show Code.rounds P body Q fuel a' w'
        exact ih d h w' F2 m2 a' Q s2 fun a3 w3 F3 m3 s3 x3=>hq a3 w3 F3 m3 s3 (x1.trans (x2.trans x3))
       ·cases g1
      ·have g1':(match AIe np nt e1 st1 os with
        |some x=>some (Sum.inr x)
        |none=>none)=some y:=by
        cases e1<;>first|exact absurd rfl he|exact g1
       split at g1'
       ·rename_i z hz
        simp only[ApN]at g1';subst g1'
        simp only[ApN]at h;subst h
        obtain⟨its',d,o1,o2⟩:=Aio os _ hz
        obtain⟨F2,m2,s2,x2⟩:=WK s1 o1
        have e3:=(h2 (Exit×St) fun e st=>some (e,st)).symm.trans (o2 (Exit×St) fun e st=>some (e,st))
        simp only[ApN,Apj]at e3
        obtain⟨rfl,rfl⟩:=e3
        have:=hq a' w' F2 m2 s2 (x1.trans x2)
        cases e<;>first|exact absurd rfl he|exact this
       ·cases g1'
   intro w F m a Q hs hq
   obtain⟨F2,m2,s2,x2⟩:=WK hs hv
   exact wp_loop_rounds many (key many v (by rw[← A3];exact hx) w F2 m2 a Q s2 fun a3 w3 F3 m3 s3 x3=>hq a3 w3 F3 m3 s3 (x2.trans x3))
end
end Go.Pev
end
section
namespace Go.Pev
open Go.RowKit
section
variable {w:World} {F F0:Nat→Prop} {m m2:Mp} {H H2:List Ob} {ids:List Nat}
theorem Dat.flat:∀ (t:Ty),t.flat=true→∀ {d:t.den} {cs:List Value} {w0:World},Dat w F t d cs→Dat w0 F0 t d cs:=by
 intro t
 induction t with
 |unit=>exact fun _ _ _ _ h=>h
 |bool=>exact fun _ _ _ _ h=>h
 |int k=>exact fun _ _ _ _ h=>h
 |slice e _=>intro h;simp[Ty.flat]at h
 |nul e=>exact fun _ _ _ _ h=>h
 |prod a b iha ihb=>
  intro h d cs w0 hd
  simp only[Ty.flat,ApU]at h
  obtain⟨c1,c2,h1,h2,h3⟩:=hd
  exact⟨c1,c2,h1,iha h.1 h2,ihb h.2 h3⟩
 |arr n e ih=>
  intro h d cs w0 hd
  obtain⟨h1,h2⟩:=hd
  exact⟨h1,BN (fun x _ cs hx=>ih (by simpa [Ty.flat]using h) hx) h2⟩
theorem Bj.flat{t:Ty}(ht:t.flat=true){d:t.den}{v:Value}{w0:World}(h:Bj w F t d v):Bj w0 F0 t d v:=by
 unfold Bj at *
 split
 ·rename_i hg
  simp only[hg,Ap6]at h
  obtain⟨vs,e,hd⟩:=h
  exact⟨vs,e,hd.flat t ht⟩
 ·rename_i hg
  simp only[hg]at h
  exact Dat.flat t ht h
theorem AfG{k v:Ty}(hk:k.flat=true)(hv:v.flat=true){w0:World}:∀ {es:List (k.den×v.den)} {ms:List MapEntry},IK w F k v es ms→IK w0 F0 k v es ms:=by
 intro es
 induction es with
 |nil=>exact fun h=>h
 |cons e es ih=>
  rintro ms ⟨me,ms',e1,⟨h1,h2⟩,h3⟩
  exact⟨me,ms',e1,⟨h1.flat hk,h2.flat hv⟩,ih h3⟩
mutual
theorem Rep.flat:∀ (a:AV) {v:Value},JB a=true→Rep w F m H a v→Rep w F0 m H a v
 |.junk,_,_,_=>by unfold Rep;trivial
 |.data t d,v,hf,h=>by unfold Rep at *;exact h.flat (by simpa [JB]using hf)
 |.nils _,v,_,h=>by unfold Rep at *;exact h
 |.agg cs,v,hf,h=>by
  unfold Rep at *
  obtain⟨vs,e,h,h1⟩:=h
  exact⟨vs,e,Ag.flat cs (by simpa [JB]using hf) h,h1⟩
 |.own id,v,_,h=>by unfold Rep at *;exact h
 |.win id off n,v,_,h=>by unfold Rep at *;exact h
 |.ptr id off,v,_,h=>by unfold Rep at *;exact h
 |.eptr id i sub,v,_,h=>by unfold Rep at *;exact h
 |.dptr cs,v,hf,h=>by simp[JB]at hf
 |.clo f caps,v,hf,h=>by
  unfold Rep at *
  obtain⟨cs,e,h⟩:=h
  exact⟨cs,e,Ag.flat caps (by simpa [JB]using hf) h⟩
 |.bnd f caps,v,hf,h=>by
  unfold Rep at *
  obtain⟨cs,e,h⟩:=h
  exact⟨cs,e,Ag.flat caps (by simpa [JB]using hf) h⟩
 |.str _,v,_,h=>by unfold Rep at *;exact h
 |.clip _ _,v,hf,h=>by simp[JB]at hf
 |.mp id,v,_,h=>by unfold Rep at *;exact h
 |.tup vs,v,hf,h=>by
  unfold Rep at *
  obtain⟨us,e,h⟩:=h
  exact⟨us,e,Ag.flat vs (by simpa [JB]using hf) h⟩
theorem Ag.flat:∀ (cs:List AV) {vs:List Value},Jy cs=true→Ag w F m H cs vs→Ag w F0 m H cs vs
 |[],vs,_,h=>by unfold Ag at *;exact h
 |c::cs,vs,hf,h=>by
  unfold Ag at *
  simp only[Jy,ApU]at hf
  obtain⟨v,vs',e,h1,h2⟩:=h
  exact⟨v,vs',e,Rep.flat c hf.1 h1,Ag.flat cs hf.2 h2⟩
end
def AUl(ids:List Nat)(H H2:List Ob)(m m2:Mp):Prop:=∀ j o,H[j]? = some o→H2[ids.getD j 0]? = some (D0 ids o)∧m2 (ids.getD j 0)=m j
theorem Gc(hm:AUl ids H H2 m m2)(Q:Option Ob→Option (Nat×Nat)→Prop)(hnone:∀ l,¬ Q none l)(hbox:∀ cs l,Q (some (.box cs)) l→Q (some (.box (KU ids cs))) l)(hprs:∀ T t t' is l,Q (some (.prs T t is)) l→Q (some (.prs T t' is)) l)(j:Nat)(h:Q H[j]? (m j)):Q H2[ids.getD j 0]? (m2 (ids.getD j 0)):=by
 cases ho:H[j]? with
 |none=>rw[ho]at h;exact absurd h (hnone _)
 |some o=>
  rw[ho]at h
  obtain⟨h1,h2⟩:=hm j o ho
  rw[h1,h2]
  cases o<;>first|exact h|exact hbox _ _ h|exact hprs _ _ _ _ _ h
mutual
theorem Rep.ren(hm:AUl ids H H2 m m2):∀ (a:AV) {v:Value},Rep w F m H a v→Rep w F m2 H2 (FM ids a) v
 |.junk,_,_=>by simp only[FM];unfold Rep;trivial
 |.data t d,v,h=>by simp only[FM];unfold Rep at *;exact h
 |.nils _,v,h=>by simp only[FM];unfold Rep at *;exact h
 |.agg cs,v,h=>by
  simp only[FM];unfold Rep at *
  obtain⟨vs,e,h,h1⟩:=h
  exact⟨vs,e,Ag.ren hm cs h,h1⟩
 |.own id,v,h=>by
  simp only[FM];unfold Rep at *
  exact Gc hm (fun o l=>Bh o l v) (fun l h=>h) (fun cs l h=>h) (fun _ _ _ _ l h=>h) id h
 |.win id off n,v,h=>by
  simp only[FM];unfold Rep at *
  exact Gc hm (fun o l=>Gz o l off n v) (fun l h=>h) (fun cs l h=>h) (fun _ _ _ _ l h=>h) id h
 |.ptr id off,v,h=>by
  simp only[FM];unfold Rep at *
  exact Gc hm (fun o l=>G0 o l off v) (fun l h=>h) (fun cs l h=>h) (fun _ _ _ _ l h=>h) id h
 |.eptr id i sub,v,h=>by
  simp only[FM];unfold Rep at *
  exact Gc hm (fun o l=>Dt o l i sub v) (fun l h=>h) (fun cs l h=>h) (fun _ _ _ _ l h=>h) id h
 |.dptr cs,v,h=>by
  simp only[FM];unfold Rep at *
  obtain⟨ad,us,e,h1,h2,h4,h3⟩:=h
  refine⟨ad,us,e,fun hne=>h1 (by rintro rfl;exact hne rfl),Ag.ren hm cs h2,h4,h3⟩
 |.clo f caps,v,h=>by
  simp only[FM];unfold Rep at *
  obtain⟨cs,e,h⟩:=h
  exact⟨cs,e,Ag.ren hm caps h⟩
 |.bnd f caps,v,h=>by
  simp only[FM];unfold Rep at *
  obtain⟨cs,e,h⟩:=h
  exact⟨cs,e,Ag.ren hm caps h⟩
 |.str _,v,h=>by simp only[FM];unfold Rep at *;exact h
 |.clip _ _,v,h=>by simp only[FM];unfold Rep at *;exact h
 |.mp id,v,h=>by
  simp only[FM];unfold Rep at *
  exact Gc hm (fun o l=>O7 o l v) (fun l h=>h) (fun cs l h=>h) (fun _ _ _ _ l h=>h) id h
 |.tup vs,v,h=>by
  simp only[FM];unfold Rep at *
  obtain⟨us,e,h⟩:=h
  exact⟨us,e,Ag.ren hm vs h⟩
theorem Ag.ren(hm:AUl ids H H2 m m2):∀ (cs:List AV) {vs:List Value},Ag w F m H cs vs→Ag w F m2 H2 (KU ids cs) vs
 |[],vs,h=>by simp only[KU];unfold Ag at *;exact h
 |c::cs,vs,h=>by
  simp only[KU];unfold Ag at *
  obtain⟨v,vs',e,h1,h2⟩:=h
  exact⟨v,vs',e,Rep.ren hm c h1,Ag.ren hm cs h2⟩
end
theorem Aho(tgt:Nat)(is:List Int):KU ids (FY tgt is)=FY (ids.getD tgt 0) is:=by
 induction is with
 |nil=>rfl
 |cons x xs ih=>
  have:KU ids (FY tgt (x::xs))=FM ids (.eptr tgt x.toNat 0)::KU ids (FY tgt xs):=rfl
  rw[this,ih]
  rfl
theorem Ae3(tgt:Nat)(is:List Int):Jy (FY tgt is)=true:=by
 induction is with
 |nil=>rfl
 |cons x xs ih=>
  have:Jy (FY tgt (x::xs))=(JB (.eptr tgt x.toNat 0)&&Jy (FY tgt xs)):=rfl
  rw[this,ih]
  rfl
theorem AXT{i j k:Nat}:∀ {ids:List Nat},JA ids=true→ids[i]? = some k→ids[j]? = some k→i=j:=by
 intro ids h
 have:ids.Nodup:=by
  induction ids with
  |nil=>exact List.nodup_nil
  |cons a ids ih=>
   simp only[JA,ApU,Aq8,Aq6,AqQ]at h
   exact Apw.2 ⟨h.1,ih h.2⟩
 intro h1 h2
 exact(AsB (Bd h1) this).1 (h1.trans h2.symm)
theorem AQI{i:Nat}{o:Ob}:∀ (ids:List Nat) (os:List Ob) (H:List Ob) (j:Nat),JA ids=true→ids[j]? = some i→os[j]? = some o→i<H.length→(A5 (ids.zip os) H)[i]? = some o:=by
 intro ids
 induction ids with
 |nil=>intro os H j _ h;simp at h
 |cons a ids ih=>
  intro os H j hn h1 h2 hl
  cases os with
  |nil=>simp at h2
  |cons x os=>
   simp only[JA,ApU,Aq8,Aq6,AqQ]at hn
   simp only[List.zip_cons_cons,A5]
   cases j with
   |zero=>
    simp only[Aqd,ApN]at h1 h2
    subst h1;subst h2
    rw[BR _ _ fun p hp => ?_,ArO hl]
    rintro rfl
    exact hn.1 (List.of_mem_zip hp).1
   |succ j=>
    simp only[Ar1]at h1 h2
    exact ih os _ j hn.2 h1 h2 (by simpa using hl)
def JC:List Nat→Nat→Option Nat
 |[],_=>none
 |x::xs,i=>if x=i then some 0 else(JC xs i).map (· + 1)
theorem X6{i j:Nat}:∀ {ids:List Nat},JC ids i=some j→ids[j]? = some i:=by
 intro ids
 induction ids generalizing j with
 |nil=>intro h;simp[JC]at h
 |cons a ids ih=>
  intro h
  simp only[JC]at h
  split at h
  ·rename_i e;simp only[ApN]at h;subst h;simp[e]
  ·rw[Ape]at h
   obtain⟨k,h1,rfl⟩:=h
   simpa using ih h1
theorem ATE{i:Nat}:∀ {ids:List Nat},JC ids i=none→i∉ids:=by
 intro ids
 induction ids with
 |nil=>intro _;simp
 |cons a ids ih=>
  intro h
  simp only[JC]at h
  split at h
  ·cases h
  ·rename_i hne
   rw[Ase]at h
   simp only[ApT,not_or]
   exact⟨fun e=>hne e.symm,ih h⟩
theorem Ae7{i j:Nat}{ids:List Nat}(hn:JA ids=true)(h:ids[j]? = some i):JC ids i=some j:=by
 cases hf:JC ids i with
 |none=>exact absurd (Apb h) (ATE hf)
 |some k=>rw[AXT hn h (X6 hf)]
def mOf(ids:List Nat)(m3 m:Mp):Mp:=fun i=>match JC ids i with
 |some j=>m3 j
 |none=>m i
theorem AI2{fz:List Bool}:∀ {ids:List Nat} {bs:List Bnd},FN H fz ids bs=true→∀ {j i:Nat},ids[j]? = some i→bs[j]? = some (.whole i)∨((∀ id,bs[j]?≠some (.whole id))∧Au H fz i=true):=by
 intro ids
 induction ids with
 |nil=>intro bs _ j i h;simp at h
 |cons a ids ih=>
  intro bs h j i hj
  simp only[FN,ApU]at h
  obtain⟨h1,h2⟩:=h
  cases j with
  |zero=>
   simp only[Aqd,ApN]at hj;subst hj
   split at h1
   ·rename_i id _
    simp only[ApQ]at h1;subst h1
    exact .inl (by simp)
   ·rename_i hne
    refine .inr ⟨fun id he => ?_,h1⟩
    cases bs with
    |nil=>simp at he
    |cons b bs=>simp at he;subst he;exact hne id bs rfl
  |succ j=>
   simp only[Ar1]at hj
   have:=ih h2 hj
   cases bs with
   |nil=>simpa using this
   |cons b bs=>simpa using this
theorem Aeb:∀ (n:Nat) (bs:List Bnd) (slot:Nat),(Cr n bs slot).length=n:=by
 intro n
 induction n with
 |zero=>intro bs slot;cases bs<;>rfl
 |succ n ih=>
  intro bs slot
  cases bs with
  |nil=>simp[Cr,ih]
  |cons b bs=>cases b<;>simp[Cr,ih]
theorem Bl(st:St)(v:AV)(l:Loc):(place st v l).heap.length=st.heap.length:=by
 cases l with
 |tmp t=>rfl
 |cell j c=>simp only[place];split<;>simp
 |cap t i=>rfl
 |obj j=>rfl
theorem AkL:∀ (its:AE) (d:Ci (leaves its)) (st:St),(enc its d st).heap.length=st.heap.length+Ep its:=by
 intro its
 induction its with
 |nil=>intro d st;rfl
 |cons p r ih=>
  intro d st
  obtain⟨l,c⟩:=p
  cases c with
  |dat t=>exact(ih _ _).trans (by rw[Bl];rfl)
  |own T e=>exact(ih _ _).trans (by rw[Bl];simp[J9,Ep];omega)
  |box n=>exact(ih _ _).trans (by rw[Bl];simp[J9,Ep];omega)
  |map k v=>exact(ih _ _).trans (by rw[Bl];simp[J9,Ep];omega)
  |prs T j=>exact(ih _ _).trans (by rw[Bl];simp[J9,Ep];omega)
  |own' j=>exact(ih _ _).trans (by rw[Bl];rfl)
  |ptr' j o=>exact(ih _ _).trans (by rw[Bl];rfl)
  |map' j=>exact(ih _ _).trans (by rw[Bl];rfl)
  |win' j=>exact(ih _ _).trans (by rw[Bl];rfl)
  |sub' j=>exact(ih _ _).trans (by rw[Bl];rfl)
  |clo f ps=>exact(ih _ _).trans (by rw[Bl];rfl)
  |bnd f j=>exact(ih _ _).trans (by rw[Bl];rfl)
  |nil e=>exact(ih _ _).trans (by rw[Bl];rfl)
end
end Go.Pev
end
section
namespace Go.Pev
open Go.RowKit
theorem ACu{H:List Ob}{fz:List Bool}{i:Nat}{o:Ob}(h:H[i]? = some o)(ha:alive o)(hf:fz.getD i false=false):owned H fz i:=by
 unfold owned
 rw[h]
 cases o with
 |free=>exact ha.elim
 |dead=>exact ha.elim
 |box cs=>trivial
 |arr T t xs=>exact hf
 |map k v es=>trivial
 |prs T t is=>trivial
theorem AUf{o:Ob}(h:alive o):o≠.free∧o≠.dead:=by
 constructor<;>rintro rfl<;>exact h
theorem Cy{H:List Ob}{fz:List Bool}{ids:List Nat}{i:Nat}(h:owned H (Al ids fz) i):owned H fz i:=by
 unfold owned at *
 cases ho:H[i]? with
 |none=>rw[ho]at h;exact h.elim
 |some o=>
  rw[ho]at h
  cases o with
  |free=>exact h.elim
  |dead=>exact h.elim
  |box cs=>trivial
  |map k v es=>trivial
  |prs T t is=>trivial
  |arr T t xs=>
   simp only at h ⊢
   rw[A2]at h
   simp only[Bool.or_eq_false_iff]at h
   exact h.1
theorem AGd{o o1:Ob}{ids:List Nat}(h:sameShape o o1):sameShape o (D0 ids o1):=by
 cases o<;>cases o1<;>simp only[sameShape,D0]at *<;>exact h
theorem VU{i:Nat}:∀ {bs:List Bnd},i∈given bs↔∃ j:Nat,bs[j]? = some (.whole i):=by
 intro bs
 induction bs with
 |nil=>simp[given]
 |cons b bs ih=>
  have step:(∃ j:Nat,(b::bs)[j]? = some (.whole i))↔b = .whole i∨∃ j:Nat,bs[j]? = some (.whole i):=by
   constructor
   ·rintro⟨j,hj⟩
    cases j with
    |zero=>simp only[Aqd,ApN]at hj;exact .inl hj
    |succ j=>simp only[Ar1]at hj;exact .inr ⟨j,hj⟩
   ·rintro (h|⟨j,hj⟩)
    ·exact⟨0,by rw[h];rfl⟩
    ·exact⟨j+1,by simpa using hj⟩
  rw[step]
  cases b with
  |whole id=>simp only[given,ApT,ih,Bnd.whole.injEq];exact⟨fun h=>h.imp Eq.symm (fun x=>x),fun h=>h.imp Eq.symm (fun x=>x)⟩
  |none=>simp[given,ih]
  |cut id=>simp[given,ih]
theorem XS(a b:List (Nat×Ob)):∀ H,A5 (a++b) H=A5 b (A5 a H):=by
 induction a with
 |nil=>intro H;rfl
 |cons p a ih=>intro H;obtain⟨i,o⟩:=p;simp only[Aps,A5];exact ih _
def DD(gv:List Nat)(H:List Ob):List Ob:=A5 (gv.map fun i=>(i,.dead)) H
theorem ADR{gv:List Nat}{i:Nat}{H:List Ob}(h:i∉gv):(DD gv H)[i]? = H[i]? :=
 BR _ _ fun p hp=>by
  rintro rfl
  obtain⟨x,hx,rfl⟩:=Aph.1 hp
  exact h hx
theorem AeR:∀ {gv:List Nat} {i:Nat} {H:List Ob},i∈gv→i<H.length→(DD gv H)[i]? = some .dead:=by
 intro gv
 induction gv with
 |nil=>intro i H h;cases h
 |cons a gv ih=>
  intro i H h hl
  by_cases hg:i∈gv
  ·exact ih (H:=H.set a .dead) hg (by simpa using hl)
  ·have:(DD gv (H.set a .dead))[i]? = (H.set a .dead)[i]? := ADR hg
   rcases ApT.1 h with rfl|h
   ·show(DD gv (H.set i .dead))[i]? = _
    rw[this,ArO hl]
   ·exact absurd h hg
theorem ADS(gv:List Nat)(H:List Ob):(DD gv H).length=H.length:=XR ..
section
variable {w w':World} {F F2 F3 FR:Nat→Prop} {m m3:Mp} {H H1:List Ob} {fz fz1 fzR:List Bool} {bs:List Bnd} {ids fr:List Nat} {np:Nat}
theorem Af2(hiC:HI w F m H fz)(gA:Av w F m H fz w F2 m H (Al fr fz))
  (giv:∀ (j id:Nat),bs[j]? = some (.whole id)→owned H (Al fr fz) id)
  (inj:∀ (i j id:Nat),bs[i]? = some (.whole id)→bs[j]? = some (.whole id)→i=j)
  (pin:∀ (j id:Nat),(bs.take np)[j]? = some (.whole id)→∃ o o1,H[id]? = some o∧alive o∧H1[j]? = some o1∧sameShape o o1∧m3 j=m id)
  (blk:∀ (j b c:Nat),owned H1 fz1 j→m3 j=some (b,c)→(∃ id c':Nat,(bs.take np)[j]? = some (.whole id)∧m id=some (b,c'))∨(∃ k id c':Nat,np≤k∧bs[k]? = some (.whole id)∧m id=some (b,c'))∨w.heap.size≤b)
  (os:w'.os=w.os) (tape:w'.tape=w.tape) (output:w'.output=w.output) (size:w.heap.size≤w'.heap.size)
  (keep:∀ b,b<w.heap.size→(∀ (j id:Nat) (c:Nat),bs[j]? = some (.whole id)→m id≠some (b,c))→w'.heap[b]? = w.heap[b]?)
  (sub:∀ b,F2 b→F3 b) (bnd:∀ b,F3 b→F2 b∨(∃ (j id c:Nat),bs[j]? = some (.whole id)∧m id=some (b,c))∨w.heap.size≤b)
  (hi1:HI w' F3 m3 H1 fz1) (al1:∀ (j:Nat) (o:Ob),H1[j]? = some o→alive o) (fr1:∀ j,fz1.getD j false=false)
  (hlen:ids.length=H1.length) (hok:FN H fzR ids (bs.take np)=true) (hnd:JA ids=true)
  (hR:(FR=F∧fzR=fz∧H1.all P6=true)∨(FR=F3∧fzR=Al fr fz)) :
  Av w F m H fz w' FR (mOf ids m3 m) (A5 (ids.zip (H1.map (D0 ids))) (DD (given (bs.drop np)) H)) fzR∧AUl ids H1 (A5 (ids.zip (H1.map (D0 ids))) (DD (given (bs.drop np)) H)) m3 (mOf ids m3 m):=by
 have hiR:∃ FB,HI w FB m H fzR∧(∀ b,F b→FB b)∧(∀ b,FB b→FR b)∧(∀ b,FB b→F2 b):=by
  rcases hR with⟨e1,e2,_⟩|⟨e1,e2⟩
  ·exact⟨F,by rw[e2];exact hiC,fun _ h=>h,fun _ h=>by rw[e1];exact h,gA.1.sub⟩
  ·exact⟨F2,by rw[e2];exact gA.2,gA.1.sub,fun b h=>by rw[e1];exact sub b h,fun _ h=>h⟩
 obtain⟨FB,hiB,hFB,hBR,hB2⟩:=hiR
 have ownR:∀ {i},owned H fzR i→owned H fz i:=by
  intro i h
  rcases hR with⟨_,e2,_⟩|⟨_,e2⟩
  ·rw[e2]at h;exact h
  ·rw[e2]at h;exact Cy h
 have pinR:∀ {id},owned H (Al fr fz) id→owned H fzR id:=by
  intro id h
  rcases hR with⟨_,e2,_⟩|⟨_,e2⟩
  ·rw[e2];exact Cy h
  ·rw[e2];exact h
 have FR3:∀ b,FR b→F3 b:=by
  rcases hR with⟨e1,_,_⟩|⟨e1,_⟩
  ·rw[e1];exact fun b h=>sub b (gA.1.sub b h)
  ·rw[e1];exact fun _ h=>h
 have tk:∀ {j id:Nat},(bs.take np)[j]? = some (.whole id)→j<np∧bs[j]? = some (.whole id):=by
  intro j id h
  rw[AqK]at h
  split at h
  ·rename_i hj;exact⟨hj,h⟩
  ·cases h
 have tk':∀ {j id:Nat},j<np→bs[j]? = some (.whole id)→(bs.take np)[j]? = some (.whole id):=by
  intro j id hj h
  rw[AqK,ApZ hj];exact h
 have gvI:∀ {i:Nat},i∈given (bs.drop np)→∃ k,np≤k∧bs[k]? = some (.whole i):=by
  intro i h
  obtain⟨j,hj⟩:=VU.1 h
  rw[AqR]at hj
  exact⟨np+j,by omega,hj⟩
 have gvO:∀ {i k:Nat},np≤k→bs[k]? = some (.whole i)→i∈given (bs.drop np):=by
  intro i k hk h
  refine VU.2 ⟨k-np,?_⟩
  rw[AqR,show np+(k-np)=k by omega];exact h
 have hids:∀ {j i:Nat},ids[j]? = some i→(∃ o,H[i]? = some o)∧((bs.take np)[j]? = some (.whole i)∨((∀ (id:Nat),(bs.take np)[j]?≠some (.whole id))∧H[i]? = some .free∧fzR.getD i false=false)):=by
  intro j i hj
  rcases AI2 hok hj with h|⟨h1,h2⟩
  ·obtain⟨o,o1,ho,_⟩:=pin j i h
   exact⟨⟨o,ho⟩,.inl h⟩
  ·obtain⟨h3,h4⟩:=BW h2
   exact⟨⟨_,h3⟩,.inr ⟨h1,h3,h4⟩⟩
 have gvN:∀ {i:Nat},i∈ids→i∉given (bs.drop np):=by
  intro i hi hg
  obtain⟨j,hj⟩:=Ard hi
  obtain⟨k,hk,hb⟩:=gvI hg
  rcases(hids hj).2 with h|⟨_,h,_⟩
  ·obtain⟨h1,h2⟩:=tk h
   have:=inj _ _ _ h2 hb
   omega
  ·obtain⟨o,h1,h2,_⟩:=CA (giv k i hb)
   rw[h]at h1;cases h1;exact h2 rfl
 have hunf:∀ {j i:Nat},ids[j]? = some i→∀ {o1:Ob},H1[j]? = some o1→∀ {T:TypeId} {t:Ty} {xs:List t.den},o1 = .arr T t xs→fzR.getD i false=false:=by
  intro j i hj o1 ho1 T t xs he
  rcases(hids hj).2 with h|⟨_,_,h⟩
  ·obtain⟨o,o2,ho,_,ho2,hs,_⟩:=pin j i h
   rw[ho1]at ho2;cases ho2
   subst he
   have h2:=pinR (giv j i (tk h).2)
   unfold owned at h2
   rw[ho]at h2
   cases o<;>simp only[sameShape]at hs
   exact h2
  ·exact h
 have hwhole:∀ {j id:Nat},(bs.take np)[j]? = some (.whole id)→ids[j]? = some id:=by
  intro j id hb
  obtain⟨o,o1,_,_,ho1,_⟩:=pin j id hb
  have hl:=At ho1
  rw[← hlen]at hl
  have hg:ids[j]? = some ids[j]:=ApO hl
  rcases AI2 hok hg with h|⟨h,_⟩
  ·rw[hb]at h;cases h;exact hg
  ·exact absurd hb (h id)
 have hgv:∀ {i:Nat},i∈given (bs.drop np)→(DD (given (bs.drop np)) H)[i]? = some .dead:=by
  intro i hi
  obtain⟨k,_,hb⟩:=gvI hi
  obtain⟨o,ho,_⟩:=CA (giv k i hb)
  exact AeR hi (At ho)
 have getIn:∀ {j i:Nat} {o1:Ob},ids[j]? = some i→H1[j]? = some o1→(A5 (ids.zip (H1.map (D0 ids))) (DD (given (bs.drop np)) H))[i]? = some (D0 ids o1):=by
  intro j i o1 hj ho1
  obtain⟨⟨o,ho⟩,_⟩:=hids hj
  exact AQI ids _ _ j hnd hj (by rw[Ap0,ho1];rfl) (by rw[ADS];exact At ho)
 have getOut0:∀ {i:Nat},i∉ids→(A5 (ids.zip (H1.map (D0 ids))) (DD (given (bs.drop np)) H))[i]? = (DD (given (bs.drop np)) H)[i]? := by
  intro i hi
  exact BR _ _ fun p hp=>by rintro rfl;exact hi (List.of_mem_zip hp).1
 have getOut:∀ {i:Nat},i∉ids→i∉given (bs.drop np)→(A5 (ids.zip (H1.map (D0 ids))) (DD (given (bs.drop np)) H))[i]? = H[i]? := by
  intro i hi hg
  rw[getOut0 hi,ADR hg]
 have getGv:∀ {i:Nat},i∈given (bs.drop np)→(A5 (ids.zip (H1.map (D0 ids))) (DD (given (bs.drop np)) H))[i]? = some .dead:=by
  intro i hg
  rw[getOut0 fun h=>gvN h hg,hgv hg]
 have mIn:∀ {j i:Nat},ids[j]? = some i→mOf ids m3 m i=m3 j:=by
  intro j i hj;unfold mOf;rw[Ae7 hnd hj]
 have mOut:∀ {i:Nat},i∉ids→mOf ids m3 m i=m i:=by
  intro i hi
  unfold mOf
  cases hf:JC ids i with
  |none=>rfl
  |some j=>exact absurd (Apb (X6 hf)) hi
 have inOut:∀ i:Nat,(∃ j:Nat,ids[j]? = some i)∨i∈given (bs.drop np)∨(i∉ids∧i∉given (bs.drop np)):=by
  intro i
  by_cases h:i∈ids
  ·obtain⟨j,hj⟩:=Ard h;exact .inl ⟨j,hj⟩
  ·by_cases h2:i∈given (bs.drop np)
   ·exact .inr (.inl h2)
   ·exact .inr (.inr ⟨h,h2⟩)
 have notGv:∀ {i:Nat},i∈given (bs.drop np)→¬ owned (A5 (ids.zip (H1.map (D0 ids))) (DD (given (bs.drop np)) H)) fzR i:=by
  intro i hg ho
  obtain⟨o,h1,_,h3⟩:=CA ho
  rw[getGv hg]at h1;cases h1;exact h3 rfl
 have has1:∀ {j i:Nat},ids[j]? = some i→∃ o1,H1[j]? = some o1:=by
  intro j i hj
  have hl:=Bd hj
  rw[hlen]at hl
  exact⟨_,ApO hl⟩
 have own1:∀ {j:Nat} {o1:Ob},H1[j]? = some o1→owned H1 fz1 j:=fun h=>ACu h (al1 _ _ h) (fr1 _)
 have blkNe:∀ {i b c:Nat},i∉ids→i∉given (bs.drop np)→(∃ o,H[i]? = some o∧o≠.free∧o≠.dead)→m i=some (b,c)→∀ {j id c':Nat},bs[j]? = some (.whole id)→m id≠some (b,c'):=by
  intro i b c hi hg ⟨o,ho,h1,h2⟩ hm j id c' hb he
  have hp:=giv j id hb
  have hne:i≠id:=by
   rintro rfl
   rcases AqV j np with hj|hj
   ·exact hi (Apb (hwhole (tk' hj hb)))
   ·exact hg (gvO hj hb)
  exact gA.2.ne hp he ho h1 h2 hm hne rfl
 have hcomp:C7 H (A5 (ids.zip (H1.map (D0 ids))) (DD (given (bs.drop np)) H)) m (mOf ids m3 m):=by
  intro i o ho hf
  rcases inOut i with⟨j,hj⟩|hg|⟨hi,hg⟩
  ·rcases(hids hj).2 with h|⟨_,h,_⟩
   ·obtain⟨o',o1,ho',ha,ho1,hs,hm⟩:=pin j i h
    rw[ho]at ho';cases ho'
    exact .inr ⟨(AUf ha).2,_,getIn hj ho1,AGd hs,by rw[mIn hj];exact hm⟩
   ·rw[ho]at h;cases h;exact absurd rfl hf
  ·exact .inl (getGv hg)
  ·rcases C7.refl H m i o ho hf with h|⟨hd,o',h1,h2,_⟩
   ·exact .inl (by rw[getOut hi hg];exact h)
   ·exact .inr ⟨hd,o',by rw[getOut hi hg];exact h1,h2,mOut hi⟩
 have hmoved:AUl ids H1 (A5 (ids.zip (H1.map (D0 ids))) (DD (given (bs.drop np)) H)) m3 (mOf ids m3 m):=by
  intro j o ho
  have hl:=At ho
  rw[← hlen]at hl
  have hg:ids[j]? = some ids[j]:=ApO hl
  have hd:ids.getD j 0=ids[j]:=by rw[ApP,hg];rfl
  rw[hd]
  exact⟨getIn hg ho,mIn hg⟩
 have hkeepF:∀ b,FB b→w'.heap[b]? = w.heap[b]? := by
  intro b hb
  refine keep b (hiB.lt b hb) fun j id c hj he => ?_
  exact gA.2.off id b c (giv j id hj) he (hB2 b hb)
 have hcell:∀ a:Addr,F a.block→w'.cell? a=w.cell? a:=fun a ha=>by simp[World.cell?,hkeepF _ (hFB _ ha)]
 have ownOut:∀ {i},i∉ids→i∉given (bs.drop np)→owned (A5 (ids.zip (H1.map (D0 ids))) (DD (given (bs.drop np)) H)) fzR i→owned H fzR i:=by
  intro i hi hg h
  unfold owned at *;rw[getOut hi hg]at h;exact h
 have bOut:∀ {i b c:Nat},i∉ids→i∉given (bs.drop np)→owned H fzR i→m i=some (b,c)→∀ {j:Nat} {o1:Ob} {c':Nat},H1[j]? = some o1→m3 j≠some (b,c'):=by
  intro i b c hi hg ho hm j o1 c' ho1 he
  obtain⟨o,h1,h2,h3⟩:=CA ho
  rcases blk j b c' (own1 ho1) he with⟨id,c2,hb,hm2⟩|⟨k,id,c2,_,hb,hm2⟩|hge
  ·exact blkNe hi hg ⟨o,h1,h2,h3⟩ hm (tk hb).2 hm2
  ·exact blkNe hi hg ⟨o,h1,h2,h3⟩ hm hb hm2
  ·have:=hiB.Mk ho hm;omega
 refine⟨⟨⟨os,tape,output,size,fun b hb hn=>keep b hb fun j id c hj he => ?_,fun b h=>hBR b (hFB b h),?_,?_,hcomp⟩,⟨?_,?_,?_,?_,?_,?_⟩⟩,hmoved⟩
 ·exact hn id c (Cy (giv j id hj)) he
 ·-- what is frozen
  intro b hb
  rcases hR with⟨e1,_,_⟩|⟨e1,_⟩
  ·rw[e1]at hb;exact .inl hb
  ·rw[e1]at hb
   rcases bnd b hb with h|⟨j,id,c,h1,h2⟩|h
   ·exact gA.1.bnd b h
   ·exact .inr (.inl ⟨id,c,Cy (giv j id h1),h2⟩)
   ·exact .inr (.inr h)
 ·intro i b c ho hm
  rcases inOut i with⟨j,hj⟩|hg|⟨hi,hg⟩
  ·obtain⟨o1,ho1⟩:=has1 hj
   rw[mIn hj]at hm
   rcases blk j b c (own1 ho1) hm with⟨id,c',h1,h2⟩|⟨k,id,c',_,h1,h2⟩|h
   ·exact .inl ⟨id,c',Cy (giv j id (tk h1).2),h2⟩
   ·exact .inl ⟨id,c',Cy (giv k id h1),h2⟩
   ·exact .inr h
  ·exact absurd ho (notGv hg)
  ·rw[mOut hi]at hm
   exact .inl ⟨i,c,ownR (ownOut hi hg ho),hm⟩
 ·-- objects
  intro i o ho
  rcases inOut i with⟨j,hj⟩|hg|⟨hi,hg⟩
  ·obtain⟨o1,ho1⟩:=has1 hj
   rw[getIn hj ho1]at ho;cases ho
   rw[mIn hj]
   have hob:=hi1.obj j o1 ho1
   cases o1 with
   |free=>trivial
   |dead=>trivial
   |box cs=>
    obtain⟨b,c,vs,T,a1,a2,a3,a4⟩:=hob
    refine⟨b,c,vs,T,a1,a2,Ag.ren hmoved cs ?_,a4⟩
    rcases hR with⟨e1,_,hfl⟩|⟨e1,_⟩
    ·rw[Apt]at hfl
     exact Ag.flat cs (by simpa [P6]using hfl _ (Apb ho1)) a3
    ·rw[e1];exact a3
   |arr T t xs=>
    rcases hR with⟨e1,_,hfl⟩|⟨e1,_⟩
    ·rw[Apt]at hfl
     have hft:t.flat=true:=by simpa [P6]using hfl _ (Apb ho1)
     obtain⟨h0,h1⟩:=hob
     refine⟨h0,?_⟩
     cases hm3:m3 j with
     |none=>rw[hm3]at h1;exact h1
     |some p=>
      obtain⟨b,cap⟩:=p
      rw[hm3]at h1
      obtain⟨vs,row,a1,a2,a3,a4,a5,a6⟩:=h1
      exact⟨vs,row,a1,a2,a3,a4,BN (fun x _ cs hx=>hx.flat t hft) a5,a6⟩
    ·rw[e1];exact hob
   |map k v es=>
    obtain⟨b,c,ms,clock,a1,a2,a3,a4⟩:=hob
    refine⟨b,c,ms,clock,a1,a2,?_,a4⟩
    rcases hR with⟨e1,_,hfl⟩|⟨e1,_⟩
    ·rw[Apt]at hfl
     have hft:k.flat=true∧v.flat=true:=by simpa [P6]using hfl _ (Apb ho1)
     exact AfG hft.1 hft.2 a3
    ·rw[e1];exact a3
   |prs T tgt is=>
    simp only[D0]
    cases hm3:m3 j with
    |none=>rw[hm3]at hob;exact hob
    |some p=>
     obtain⟨b,cap⟩:=p
     rw[hm3]at hob
     obtain⟨vs,us,a1,a2,a3,a4,a5,a6,a7⟩:=hob
     refine⟨vs,us,a1,a2,a3,a4,?_,a6,a7⟩
     rw[← Aho]
     refine Ag.ren hmoved _ ?_
     rcases hR with⟨e1,_,hfl⟩|⟨e1,_⟩
     ·exact Ag.flat _ (Ae3 tgt is) a5
     ·rw[e1];exact a5
  ·rw[getGv hg]at ho;cases ho;trivial
  ·rw[getOut hi hg]at ho
   rw[mOut hi]
   refine ObI.mono hcell (fun b h=>hBR b (hFB b h)) hcomp (fun h1 h2 b c hm hlt=>keep b hlt fun j id c' hj=>blkNe hi hg ⟨o,ho,h1,h2⟩ hm hj) (hiC.obj i o ho)
 ·-- apart
  intro i j b c b' c' hoi hoj hij hmi hmj
  rcases inOut i with⟨k,hk⟩|hg|⟨hi,hgi⟩
  ·obtain⟨o1,ho1⟩:=has1 hk
   rw[mIn hk]at hmi
   rcases inOut j with⟨l,hl⟩|hg|⟨hj,hgj⟩
   ·obtain⟨o2,ho2⟩:=has1 hl
    rw[mIn hl]at hmj
    have hkl:k≠l:=by rintro rfl;rw[hk]at hl;cases hl;exact hij rfl
    exact hi1.sep k l b c b' c' (own1 ho1) (own1 ho2) hkl hmi hmj
   ·exact absurd hoj (notGv hg)
   ·rw[mOut hj]at hmj
    rintro rfl
    exact bOut hj hgj (ownOut hj hgj hoj) hmj ho1 hmi
  ·exact absurd hoi (notGv hg)
  ·rw[mOut hi]at hmi
   rcases inOut j with⟨l,hl⟩|hg|⟨hj,hgj⟩
   ·obtain⟨o2,ho2⟩:=has1 hl
    rw[mIn hl]at hmj
    rintro rfl
    exact bOut hi hgi (ownOut hi hgi hoi) hmi ho2 hmj
   ·exact absurd hoj (notGv hg)
   ·rw[mOut hj]at hmj
    exact hiB.sep i j b c b' c' (ownOut hi hgi hoi) (ownOut hj hgj hoj) hij hmi hmj
 ·-- none of them frozen
  intro i b c hoi hmi hb
  rcases inOut i with⟨k,hk⟩|hg|⟨hi,hg⟩
  ·obtain⟨o1,ho1⟩:=has1 hk
   rw[mIn hk]at hmi
   exact hi1.off k b c (own1 ho1) hmi (FR3 b hb)
  ·exact absurd hoi (notGv hg)
  ·rw[mOut hi]at hmi
   have ho:=ownOut hi hg hoi
   rcases hR with⟨e1,e2,_⟩|⟨e1,e2⟩
   ·rw[e1]at hb;exact hiC.off i b c (ownR ho) hmi hb
   ·rw[e1]at hb
    rcases bnd b hb with h|⟨j,id,c',h1,h2⟩|h
    ·rw[e2]at ho;exact gA.2.off i b c ho hmi h
    ·obtain⟨o,q1,q2,q3⟩:=CA ho
     exact blkNe hi hg ⟨o,q1,q2,q3⟩ hmi h1 h2
    ·have:=hiB.Mk ho hmi;omega
 ·intro i T t xs b c hio hf hmi
  rcases inOut i with⟨k,hk⟩|hg|⟨hi,hg⟩
  ·obtain⟨o1,ho1⟩:=has1 hk
   rw[getIn hk ho1]at hio
   have:o1 = .arr T t xs:=by
    cases o1<;>simp only[D0,ApN]at hio<;>first|exact hio|cases hio
   rw[hunf hk ho1 this]at hf;cases hf
  ·rw[getGv hg]at hio;cases hio
  ·rw[getOut hi hg]at hio
   rw[mOut hi]at hmi
   exact hBR b (hiB.froz i T t xs b c hio hf hmi)
 ·intro b hb
  exact hi1.lt b (FR3 b hb)
 ·rw[XR,ADS]
  exact hiB.len
end
end Go.Pev
end
section
namespace Go.Pev
open Go.RowKit
section
variable {P:Program} {w:World} {F:Nat→Prop} {m:Mp} {st:St} {a:Act}
def ALj(tmps:Array Value):ResultVar→Sem Value
 |.tmp t=>pure (tmps.getD t undef)
 |.cell x t=>do loadVar t (← asAddr (tmps.getD x undef))
theorem AQs(hs:SI w F m st a){rv:ResultVar}{v:AV}(h:Q7 P st rv=some v):
  ∃ u,(ALj a.tmps rv).run P w = .ok u w∧Rep w F m st.heap v u:=by
 cases rv with
 |tmp t=>
  simp only[Q7,ApN]at h;subst h
  exact⟨_,rfl,hs.tmps t⟩
 |cell x T=>
  simp only[Q7]at h
  split at h
  ·rename_i id off n ag h1 h2 h3
   split at h
   ·rename_i cs ho
    have hr:=hs.tmps x
    have e1:st.tmps.getD x .junk = .ptr id off:=h1
    rw[e1]at hr
    unfold Rep G0 at hr
    rw[ho]at hr
    obtain⟨b,c,e2,e3⟩:=hr
    obtain⟨b',c',vs,T',e4,e5,e6,e7⟩:=hs.heap.obj id _ ho
    rw[e2]at e4;cases e4
    obtain⟨u,k1,k2⟩:=DP (P:=P) h2 h3 h (Em e6 off) (ad:=⟨b,off,none⟩) (fun u hu=>e7 u (Aqv hu)) (fun j u hu=>by
     rw[AqR]at hu
     rw[DE]
     simp only[World.cell?,e5]
     simpa using hu)
    refine⟨u,?_,k2⟩
    simp[ALj,e3,asAddr,k1]
   ·cases h
  ·cases h
theorem ALi(hs:SI w F m st a):∀ {rvs:List ResultVar} {vs:List AV},C9 P st rvs=some vs →
  ∃ us,(rvs.mapM (ALj a.tmps)).run P w = .ok us w∧Ag w F m st.heap vs us:=by
 intro rvs
 induction rvs with
 |nil=>
  intro vs h
  simp only[C9,ApN]at h;subst h
  exact⟨[],by simp[List.mapM_nil],NJ⟩
 |cons rv rvs ih=>
  intro vs h
  simp only[C9]at h
  split at h
  ·cases h
  ·rename_i v hv
   split at h
   ·cases h
   ·rename_i vs' hvs
    simp only[ApN]at h;subst h
    obtain⟨u,h1,h2⟩:=AQs hs hv
    obtain⟨us,h3,h4⟩:=ih hvs
    refine⟨u::us,?_,by unfold Ag;exact⟨u,us,rfl,h2,h4⟩⟩
    rw[List.mapM_cons]
    simp only[Sem.run_bind]
    rw[h1]
    simp only[Result.andThen_ok]
    rw[h3]
    simp
def AX4(us:List Value):Value:=if h:us.toArray.size=1 then us.toArray[0]else .tuple us.toArray
theorem ABh(hs:SI w F m st a){fn:Func}{vs:List AV}(h:C9 P st fn.results.toList=some vs):
  ∃ us,(results fn a.tmps).run P w = .ok (AX4 us) w∧Ag w F m st.heap vs us:=by
 obtain⟨us,h1,h2⟩:=ALi hs h
 refine⟨us,?_,h2⟩
 have e:results fn a.tmps=(do
   let vs ← fn.results.mapM (ALj a.tmps)
   pure (if h:vs.size=1 then vs[0]else .tuple vs)):=by
  unfold results
  congr 2
 rw[e,AsQ]
 simp only[Sem.run_bind,map_eq_pure_bind]
 rw[h1]
 rfl
theorem AH6{H:List Ob}{vs:List AV}{us:List Value}(h:Ag w F m H vs us):Rep w F m H (single vs) (AX4 us):=by
 have hl:=Aq h
 unfold AX4
 match vs,us,hl with
 |[],[],_=>
  simp only[single]
  unfold Rep
  exact⟨_,rfl,h⟩
 |[v],[u],_=>
  simp only[single]
  unfold Ag at h
  obtain⟨_,_,e,h1,_⟩:=h
  cases e
  exact h1
 |v::v'::vs,u::u'::us,_=>
  simp only[single]
  unfold Rep
  exact⟨_,rfl,h⟩
def Ij:List RS→List Value→List Value
 |.one::r,u::us=>u::Ij r us
 |.agg _::r,u::us=>u.cells.toList++Ij r us
 |_,_=>[]
theorem AWO{H:List Ob}:∀ {rs:List RS} {vs:List AV} {us:List Value} {tm:List AV},GU rs vs=some tm→Ag w F m H vs us →
  Ag w F m H tm (Ij rs us)∧(Ij rs us).length=cellsOf rs∧∀ (w2:World) (F2:Nat→Prop) (m2:Mp) (H2:List Ob) (ws:List AV),Ag w2 F2 m2 H2 ws (Ij rs us)→Ag w2 F2 m2 H2 (GO rs ws) us:=by
 intro rs
 induction rs with
 |nil=>
  intro vs us tm h hr
  cases vs with
  |nil=>
   simp only[GU,ApN]at h;subst h
   unfold Ag at hr;subst hr
   exact⟨NJ,rfl,fun _ _ _ _ _ _=>NJ⟩
  |cons v vs=>simp[GU]at h
 |cons r rs ih=>
  intro vs us tm h hr
  cases vs with
  |nil=>cases r<;>simp[GU]at h
  |cons v vs=>
   unfold Ag at hr
   obtain⟨u,us',rfl,hv,hr⟩:=hr
   cases r with
   |one=>
    simp only[GU]at h
    split at h
    ·rename_i l hl
     simp only[ApN]at h;subst h
     obtain⟨h1,h2,h3⟩:=ih hl hr
     refine⟨by simp only[Ij];unfold Ag;exact⟨u,_,rfl,hv,h1⟩,by simp[Ij,cellsOf,RS.cells,h2];omega,fun w2 F2 m2 H2 ws hw => ?_⟩
     simp only[Ij]at hw
     cases ws with
     |nil=>unfold Ag at hw;cases hw
     |cons x ws=>
      unfold Ag at hw
      obtain⟨y,ys,e,q1,q2⟩:=hw
      cases e
      simp only[GO,List.headD_cons,ArX]
      unfold Ag
      exact⟨u,us',rfl,q1,h3 w2 F2 m2 H2 ws q2⟩
    ·cases h
   |agg n=>
    simp only[GU]at h
    split at h
    ·rename_i cs hag hcs
     split at h
     ·rename_i hn
      simp only[ApQ]at hn
      split at h
      ·rename_i l hl
       simp only[ApN]at h;subst h
       obtain⟨h1,h2,h3⟩:=ih hl hr
       have hc:=cells?_ok hcs hv
       have ho:=cells?_one hcs hv
       have hcl:=Aq hc
       have hu:u = .agg u.cells:=by
        cases v<;>simp only[YN]at hag<;>try (cases hag;done)
        ·rename_i t d
         unfold Rep Bj at hv
         rw[ApZ hag]at hv
         obtain⟨x,rfl,_⟩:=hv
         rfl
        ·unfold Rep at hv
         obtain⟨x,rfl,_⟩:=hv
         rfl
       refine⟨by simp only[Ij];exact Gn hc h1,by simp[Ij,cellsOf,RS.cells,h2]at hcl ⊢;omega,fun w2 F2 m2 H2 ws hw => ?_⟩
       simp only[Ij]at hw
       have ht:=OG hw n
       have hd:=Em hw n
       have hn':u.cells.toList.length=n:=by rw[hcl,hn]
       rw[List.take_left' hn']at ht
       rw[List.drop_left' hn']at hd
       simp only[GO]
       unfold Ag
       refine⟨u,us',rfl,?_,h3 w2 F2 m2 H2 _ hd⟩
       unfold Rep
       exact⟨u.cells,hu,ht,ho⟩
      ·cases h
     ·cases h
    ·cases h
end
end Go.Pev
end
section
namespace Go.Pev
open Go.RowKit
theorem Ip {P : Program} {g : FuncId} {fn : Func} (hf : P.funcs[g]? = some fn) (hb : fn.body.isSome = true) (hn : (fn.name == "runtime.NumGoroutine") = false) : TB P g := by
 intro args w
 obtain⟨c,hc⟩:=Aq3.1 hb
 have hn' : ¬ fn.name = "runtime.NumGoroutine" := by simpa using hn
 simp[callFunc,hf,hn',hc]
theorem AOq{P:Program}{np:Nat}{h:Hints}:∀ (c:Code) (n:Nat),loops c=0→Du P np h c n:=by
 intro c
 induction c with
 |seq a b iha ihb=>intro n hl;simp only[loops]at hl;exact⟨iha n (by omega),ihb _ (by omega)⟩
 |cond c a b iha ihb=>intro n hl;simp only[loops]at hl;exact⟨iha n (by omega),ihb _ (by omega)⟩
 |block id c ih=>intro n hl;simp only[loops]at hl;exact ih n hl
 |loop c ih=>intro n hl;simp only[loops]at hl;omega
 |_=>intro n _;trivial
section
variable {P:Program} {E:Env} {h:Hints} {g:FuncId} {fn:Func} {c:Code}
theorem AaL{w:World}{F:Nat→Prop}{m:Mp}{H:List Ob}{args:List AV}{vals:List Value}(hr:Ag w F m H args vals)(n:Nat)(t:Nat):
  Rep w F m H ((args++List.replicate n AV.junk).getD t .junk) ((vals.toArray++Array.replicate n undef).getD t undef):=by
 have hl:=Aq hr
 have e:(vals.toArray++Array.replicate n undef).getD t undef=(vals++List.replicate n undef).getD t undef:=by
  rw[AqE,ApP,← Arj]
  simp
 rw[e,ApP,ApP]
 rcases AqV t args.length with ht|ht
 ·rw[Apu ht,Apu (by omega)]
  obtain⟨v,hv,hrv⟩:=CL hr (i:=t) (c:=args[t]) (ApO ht)
  rw[hv,ApO ht]
  exact hrv
 ·rw[Apx ht,Asb]
  split<;>(unfold Rep;trivial)
theorem ASM(hE:∀ g,AO P g (E.spec g))(hL:Ir E)(hf:P.funcs[g]? = some fn)(hb:fn.body=some c)(hc:TB P g)(hl:loops c=0):
  AO P g (Co P E h fn):=by
 intro R args H fz slot k r hk
 simp only[Co,hb]at hk
 split at hk
 ·cases hk
 ·rename_i hle
  simp only[ApQ]at hle
  obtain⟨e,st',h1,h2,h3⟩:=Pc hE hL (np:=H.length) c 0 (AOq c 0 hl) R _ _ r hk
  have key:∃ vs,C9 P st' fn.results.toList=some vs∧k (single vs) { heap:=some (st'.heap,st'.frz) }=some r∧(e = .normal∨e = .ret):=by
   cases e with
   |normal=>
    simp only at h1
    split at h1
    ·rename_i vs hvs;exact⟨vs,hvs,h1,.inl rfl⟩
    ·cases h1
   |ret=>
    simp only at h1
    split at h1
    ·rename_i vs hvs;exact⟨vs,hvs,h1,.inr rfl⟩
    ·cases h1
   |_=>simp at h1
  obtain⟨vs,hvs,h4,he⟩:=key
  refine⟨_,_,h4,fun R' k' => ?_,hc,fun w F m vals hi hr => ?_⟩
  ·simp only[Co,hb,hle,Apn]
   refine(h2 R' _).trans ?_
   rcases he with rfl|rfl<;>simp only[hvs]
  ·have hlv:=Aq hr
   refine calls_of_wp hf hb ?_
   have hsi:SI w F m { tmps:=args++List.replicate (fn.ntmps-args.length) .junk,heap:=H,frz:=fz } { tmps:=vals.toArray++Array.replicate (fn.ntmps-vals.toArray.size) undef,defers:=[] }:=by
    refine⟨fun t => ?_,?_,hi,rfl⟩
    ·have:=AaL hr (fn.ntmps-args.length) t
     simp only[Aqg,hlv]
     exact this
    ·simp[hlv]
   refine h3 w F m _ _ hsi fun a' w' F' m' s1 x1 => ?_
   obtain⟨us,r1,r2⟩:=ABh s1 hvs
   have hgo:Av w F m H fz w' F' m' st'.heap st'.frz:=⟨⟨x1.os,x1.tape,x1.output,x1.size,x1.keep,x1.sub,x1.bnd,x1.own,fun i o ho hf=>x1.comp i o (At ho) ho hf⟩,s1.heap⟩
   have hpost:a'.defers=[]∧∃ v,(results fn a'.tmps).run P w' = .ok v w'∧(fun(en:Ending) (w':World)=>∃ u,en = .returned u∧∃ F' m',Av w F m H fz w' F' m' (Ck { heap:=some (st'.heap,st'.frz) } H) (GC { heap:=some (st'.heap,st'.frz) } fz)∧Rep w' F' m' (Ck { heap:=some (st'.heap,st'.frz) } H) (single vs) u) (.returned v) w':=
    ⟨s1.defers,_,r1,_,rfl,F',m',hgo,AH6 r2⟩
   rcases he with rfl|rfl<;>exact hpost
theorem AJt{w:World}{F:Nat→Prop}{m:Mp}{H:List Ob}{fz:List Bool}{bs:List Bnd}{m':Mp}{E:St}{val:Nat→Value}(h:Inv w F m H fz bs m' E val){j:Nat}{o:Ob}(hj:E.heap[j]? = some o):alive o:=by
 have hlt:=At hj
 rw[h.lenH]at hlt
 have hx:bs[j]? = some bs[j]:=ApO hlt
 have hb:=h.ob j _ hx
 cases hc:bs[j]with
 |none=>rw[hc]at hb;simp only[BT]at hb;obtain⟨_,⟨T,e,e2,_⟩|⟨T,e,e2⟩⟩:=hb<;>(rw[hj]at e2;cases e2;trivial)
 |whole id=>
  rw[hc]at hb;simp only[BT]at hb
  rcases hb.2 with⟨T,t,xs,_,a2,_⟩|⟨k,v,es,_,a2⟩|⟨cs,cs',b,c,vs,T,_,a2,_⟩|⟨_,_,_,_,_,a2,_⟩<;>(rw[hj]at a2;cases a2;trivial)
 |cut id=>rw[hc]at hb;simp only[BT]at hb;obtain⟨T,t,xs,n,_,_,a3,_⟩:=hb;rw[hj]at a3;cases a3;trivial
theorem ATD{np:Nat}{outs:AE}{rs:List RS}{st:St}{y:Ci (leaves outs)}(h:finish np P fn outs rs st=some y):
  ∃ vs tm bs fr,C9 P st fn.results.toList=some vs∧GU rs vs=some tm∧dec tm st.heap outs st.frz []=some (y,bs,fr)∧pins np 0 bs=true:=by
 unfold finish at h
 split at h
 ·rename_i vs hvs
  split at h
  ·rename_i tm htm
   split at h
   ·rename_i y' bs fr hd
    split at h
    ·rename_i hp
     simp only[ApN]at h;subst h
     exact⟨vs,tm,bs,fr,hvs,htm,hd,hp⟩
    ·cases h
   ·cases h
  ·cases h
 ·cases h
theorem Ady(hE:∀ g,AO P g (E.spec g))(hL:Ir E)(hf:P.funcs[g]? = some fn)(hb:fn.body=some c)(hc:TB P g)
  {np na:Nat} (hna:na≤fn.ntmps) {its outs:AE} {rs:List RS} {f:Ci (leaves its)→Option (Ci (leaves outs))} (hfun:∀ x,f x=AK np P E h fn its outs rs x) (hl:Du P np h c 0) :
  AO P g (AF np na its outs rs f):=by
 intro R args H fz slot k r hk
 simp only[AF]at hk
 split at hk
 ·cases hk
 ·rename_i x bs fr hdec
  split at hk
  ·cases hk
  ·rename_i hchk
   simp only[ApU,ApQ]at hchk
   obtain⟨⟨huncut,hbl⟩,hal⟩:=hchk
   split at hk
   ·cases hk
   ·rename_i y hy
    generalize hids:Cr (Ep outs) (bs.take np) slot=ids at hk
    generalize hgv:given (bs.drop np)=gv at hk
    have key:∃ e,k (single (GO rs (KU ids (encode (cellsOf rs) outs y).tmps))) e=some r∧e.heap=none∧e.objs=gv.map (fun i=>(i,.dead))++ids.zip ((encode (cellsOf rs) outs y).heap.map (D0 ids)) ∧
      (∀ R' (k':AV→Eff→Option R'),NH R' gv (bs.take np) fr rs (encode (cellsOf rs) outs y) ids H fz k'=k' (single (GO rs (KU ids (encode (cellsOf rs) outs y).tmps))) e) ∧
      FN H (Al e.frz fz) ids (bs.take np)=true∧JA ids=true ∧
      ((e.frz=[]∧Jy (encode (cellsOf rs) outs y).tmps=true∧(encode (cellsOf rs) outs y).heap.all P6=true)∨e.frz=fr):=by
     unfold NH at hk
     split at hk
     ·rename_i hflat
      split at hk
      ·rename_i hok
       simp only[ApU]at hok hflat
       refine⟨_,hk,rfl,rfl,fun R' k'=>by simp only[NH,hflat.1,hflat.2,hok.1,hok.2,AsO],hok.1,hok.2,.inl ⟨rfl,hflat.1,hflat.2⟩⟩
      ·cases hk
     ·rename_i hflat
      split at hk
      ·rename_i hok
       simp only[ApU]at hok
       refine⟨_,hk,rfl,rfl,fun R' k'=>by simp only[NH,hflat,hok.1,hok.2,AsO],hok.1,hok.2,.inr rfl⟩
      ·cases hk
    obtain⟨e,h4,he1,he2,h5,hok,hnd,hfl⟩:=key
    refine⟨_,e,h4,fun R' k' => ?_,hc,fun w F m vals hi hr => ?_⟩
    ·simp only[AF,hdec,huncut,hbl,hal,hy,Apn,AsO,hids,hgv]
     exact h5 R' k'
    ·have hlv:=Aq hr
     rw[hfun x]at hy
     unfold AK at hy
     rw[hb]at hy
     simp only at hy
     obtain⟨ex,st',g1,_,g3⟩:=Pc hE hL c 0 hl _ _ _ _ hy
     have hfin:finish np P fn outs rs st'=some y∧(ex = .normal∨ex = .ret):=by
      cases ex with
      |normal=>exact⟨g1,.inl rfl⟩
      |ret=>exact⟨g1,.inr rfl⟩
      |_=>simp at g1
     obtain⟨hfin,hex⟩:=hfin
     obtain⟨vs,tm,bs',fr',hvs,htm,hd',hp⟩:=ATD hfin
     refine calls_of_wp hf hb ?_
     obtain⟨F2,m2,gA,invA,_⟩:=AZI (val:=fun t=>(vals.toArray++Array.replicate (fn.ntmps-vals.toArray.size) undef).getD t undef) its fz [] F (fun _=>none) (blank fn.ntmps) x bs fr hi
      (fun t v ht=>by
       have:=AaL hr (fn.ntmps-vals.toArray.size) t
       rw[ApP,Apu (Bd ht),ht]at this
       exact this) (Inv.blank fn.ntmps) hdec
     have hsi:SI w F2 m2 (encode fn.ntmps its x) { tmps:=vals.toArray++Array.replicate (fn.ntmps-vals.toArray.size) undef,defers:=[] }:=by
      refine⟨invA.tmps,?_,invA.hi gA.2,rfl⟩
      rw[Mv]
      simp[hlv]
      omega
     refine g3 w F2 m2 _ _ hsi fun a' w' F' m' s1 x1 => ?_
     obtain⟨us,r1,r2⟩:=ABh s1 hvs
     obtain⟨q1,q2,q3⟩:=AWO htm r2
     obtain⟨F3,m3,gC,invC,_⟩:=AZI (val:=fun t=>(Ij rs us).getD t undef) outs st'.frz [] F' (fun _=>none) (blank (cellsOf rs)) y bs' fr' s1.heap
      (fun t v ht=>by
       obtain⟨u,hu,hru⟩:=CL q1 ht
       rw[ApP,hu]
       exact hru) (Inv.blank (cellsOf rs)) hd'
     have srcA:∀ {j b c},owned (encode fn.ntmps its x).heap (encode fn.ntmps its x).frz j→m2 j=some (b,c)→∃ id,bs[j]? = some (.whole id)∧owned H (Al fr fz) id∧m id=some (b,c):=by
      intro j b c ho hm
      obtain⟨y,id,k1,k2,k3,k4⟩:=invA.src ho hm
      rw[Apt]at huncut
      have:=huncut y (Apb k1)
      cases y with
      |none=>simp[Bnd.id?]at k2
      |whole i=>simp only[Bnd.id?,ApN]at k2;subst k2;exact⟨_,k1,k3,k4⟩
      |cut i=>simp[Bnd.Anl]at this
     have hinj:∀ (i j id:Nat),bs[i]? = some (.whole id)→bs[j]? = some (.whole id)→i=j:=fun i j id h1 h2=>invA.inj i j _ _ id h1 h2 rfl rfl
     have start:∀ (j id:Nat),bs[j]? = some (.whole id)→m2 j=m id∧∃ o o0,H[id]? = some o∧alive o∧(encode fn.ntmps its x).heap[j]? = some o0∧sameShape o o0∧alive o0∧owned H (Al fr fz) id:=by
      intro j id hj
      have hA:=invA.ob j _ hj
      simp only[BT]at hA
      obtain⟨eA,hA⟩:=hA
      refine⟨eA,?_⟩
      rcases hA with⟨T,t,xs,a1,a2,a3⟩|⟨k,v,es,a1,a2⟩|⟨cs,cs',b,cc,vs,T,a1,a2,_⟩|⟨_,_,_,_,a1,a2,_⟩
      ·exact⟨_,_,a1,trivial,a2,⟨rfl,rfl⟩,trivial,ACu a1 trivial a3⟩
      ·exact⟨_,_,a1,trivial,a2,trivial,trivial,by unfold owned;rw[a1];trivial⟩
      rotate_left
      ·exact⟨_,_,a1,trivial,a2,rfl,trivial,by unfold owned;rw[a1];trivial⟩
      ·exact⟨_,_,a1,trivial,a2,trivial,trivial,by unfold owned;rw[a1];trivial⟩
     have hpin:∀ (j id:Nat),(bs.take np)[j]? = some (.whole id)→∃ o o1,H[id]? = some o∧alive o∧(encode (cellsOf rs) outs y).heap[j]? = some o1∧sameShape o o1∧m3 j=m id:=by
      intro j id hj0
      rw[AqK]at hj0
      split at hj0
      case isFalse=>cases hj0
      rename_i hjn
      obtain⟨eA,o,o0,s1,s2,s3,s4,s5,s6⟩:=start j id hj0
      have hC:=invC.ob j _ (by have:=AQ4 _ 0 bs' hp j hjn;rw[Aqe]at this;exact this)
      simp only[BT]at hC
      obtain⟨eC,hC⟩:=hC
      have mid:=x1.comp j o0 hjn s3 (AUf s5).1
      have fin:∃ o2 o1,st'.heap[j]? = some o2∧alive o2∧(encode (cellsOf rs) outs y).heap[j]? = some o1∧sameShape o2 o1:=by
       rcases hC with⟨T,t,xs,a1,a2,a3⟩|⟨k,v,es,a1,a2⟩|⟨cs,cs',b,cc,vs,T,a1,a2,_⟩|⟨_,_,_,_,a1,a2,_⟩
       ·exact⟨_,_,a1,trivial,a2,⟨rfl,rfl⟩⟩
       ·exact⟨_,_,a1,trivial,a2,trivial⟩
       rotate_left
       ·exact⟨_,_,a1,trivial,a2,rfl⟩
       ·exact⟨_,_,a1,trivial,a2,trivial⟩
      obtain⟨o2,o1,t1,t2,t3,t4⟩:=fin
      rcases mid with md|⟨_,o2',md1,md2,md3⟩
      ·rw[t1]at md;cases md;exact t2.elim
      ·rw[t1]at md1;cases md1
       exact⟨o,o1,s1,s2,t3,(s4.trans md2).trans t4,by rw[eC,md3,eA]⟩
     have hiC1:=invC.hi gC.2
     have hblk:∀ j b cc,owned (encode (cellsOf rs) outs y).heap (encode (cellsOf rs) outs y).frz j→m3 j=some (b,cc)→(∃ id c':Nat,(bs.take np)[j]? = some (.whole id)∧m id=some (b,c'))∨(∃ k id c':Nat,np≤k∧bs[k]? = some (.whole id)∧m id=some (b,c'))∨w.heap.size≤b:=by
      intro j b cc ho hm
      obtain⟨_,i',k1,k2,k3,k4⟩:=invC.src ho hm
      rcases x1.own i' b cc (Cy k3) k4 with⟨i,c0,l1,l2⟩|h
      ·obtain⟨id,n1,n2,n3⟩:=srcA l1 l2
       rcases AqV i np with hin|hin
       ·left
        have n1':(bs.take np)[i]? = some (.whole id):=by rw[AqK,ApZ hin];exact n1
        obtain⟨o,o1,p1,p2,p3,p4,p5⟩:=hpin i id n1'
        have hoi:owned (encode (cellsOf rs) outs y).heap (encode (cellsOf rs) outs y).frz i:=ACu p3 (AJt invC p3) (invC.frz i)
        by_cases hij:j=i
        ·subst hij;exact⟨id,c0,n1',n3⟩
        ·exact absurd rfl (hiC1.sep j i b cc b c0 ho hoi hij hm (by rw[p5];exact n3))
       ·exact .inr (.inl ⟨i,id,c0,hin,n1,n3⟩)
      ·exact .inr (.inr h)
     have hkeep:∀ b,b<w.heap.size→(∀ (j id:Nat) (c:Nat),bs[j]? = some (.whole id)→m id≠some (b,c))→w'.heap[b]? = w.heap[b]? := by
      intro b hb hn
      refine x1.keep b hb fun i cc ho hm => ?_
      obtain⟨id,n1,_,n3⟩:=srcA ho hm
      exact hn i id cc n1 n3
     have hbnd:∀ b,F3 b→F2 b∨(∃ (j id c:Nat),bs[j]? = some (.whole id)∧m id=some (b,c))∨w.heap.size≤b:=by
      have hx:∀ {i b cc},owned (encode fn.ntmps its x).heap (encode fn.ntmps its x).frz i→m2 i=some (b,cc)→∃ (j id c:Nat),bs[j]? = some (.whole id)∧m id=some (b,c):=by
       intro i b cc ho hm
       obtain⟨id,n1,_,n3⟩:=srcA ho hm
       exact⟨i,id,cc,n1,n3⟩
      intro b hb
      rcases gC.1.bnd b hb with h|⟨i,cc,ho,hm⟩|h
      ·rcases x1.bnd b h with h|⟨i,cc,ho,hm⟩|h
       ·exact .inl h
       ·exact .inr (.inl (hx ho hm))
       ·exact .inr (.inr h)
      ·rcases x1.own i b cc ho hm with⟨i',c0,ho,hm⟩|h
       ·exact .inr (.inl (hx ho hm))
       ·exact .inr (.inr h)
      ·exact .inr (.inr (AqN x1.size h))
     have hidl:ids.length=(encode (cellsOf rs) outs y).heap.length:=by
      rw[← hids,Aeb];unfold encode;rw[AkL];simp[blank]
     obtain⟨FR,hFR,hRR⟩:∃ FR,((FR=F∧Al e.frz fz=fz∧(encode (cellsOf rs) outs y).heap.all P6=true)∨(FR=F3∧Al e.frz fz=Al fr fz))∧Ag w' FR m3 (encode (cellsOf rs) outs y).heap (encode (cellsOf rs) outs y).tmps (Ij rs us):=by
      have hrt:Ag w' F3 m3 (encode (cellsOf rs) outs y).heap (encode (cellsOf rs) outs y).tmps (Ij rs us):=by
       refine DI (by rw[Mv,q2]) fun i a u ha hu => ?_
       have:=invC.tmps i
       rw[ApP]at this
       have ha':(enc outs y (blank (cellsOf rs))).tmps[i]? = some a:=ha
       rw[ha',ApP,hu]at this
       exact this
      rcases hfl with⟨f1,f2,f3⟩|f1
      ·exact⟨F,.inl ⟨rfl,by rw[f1];rfl,f3⟩,Ag.flat _ f2 hrt⟩
      ·exact⟨F3,.inr ⟨rfl,by rw[f1]⟩,hrt⟩
     obtain⟨hgo,hmv⟩:=Af2 (ids:=ids) (np:=np) hi gA (fun j id hj=>(start j id hj).2.elim fun _ h=>h.elim fun _ h=>h.2.2.2.2.2) hinj hpin hblk x1.os x1.tape x1.output x1.size hkeep (fun b h=>gC.1.sub b (x1.sub b h)) hbnd hiC1 (fun j o hj=>AJt invC hj) invC.frz hidl hok hnd hFR
     rw[hgv]at hgo hmv
     have hH:Ck e H=A5 (ids.zip ((encode (cellsOf rs) outs y).heap.map (D0 ids))) (DD gv H):=by rw[CH he1,he2,XS];rfl
     have hZ:GC e fz=Al e.frz fz:=CS he1 fz
     have hpost:a'.defers=[]∧∃ v,(results fn a'.tmps).run P w' = .ok v w'∧(fun(en:Ending) (w':World)=>∃ u,en = .returned u∧∃ F' m',Av w F m H fz w' F' m' (Ck e H) (GC e fz)∧Rep w' F' m' (Ck e H) (single (GO rs (KU ids (encode (cellsOf rs) outs y).tmps))) u) (.returned v) w':=by
      refine⟨s1.defers,_,r1,_,rfl,FR,mOf ids m3 m,?_,?_⟩
      ·rw[hH,hZ];exact hgo
      ·rw[hH]
       exact AH6 (q3 _ _ _ _ _ (Ag.ren hmv _ hRR))
     rcases hex with rfl|rfl<;>exact hpost
end
end Go.Pev
end
section
namespace Go.Pev
open Go.RowKit
def Ka:Code→Nat→Option Code
 |.seq a b,n=>match Ka a n with
  |some c=>some c
  |none=>Ka b (n-loops a)
 |.cond _ a b,n=>match Ka a n with
  |some c=>some c
  |none=>Ka b (n-loops a)
 |.block _ c,n=>Ka c n
 |.loop c,n=>match n with
  |0=>some c
  |n+1=>Ka c n
 |_,_=>none
def AQ(f:Func):Code:=match f.body with
 |some c=>c
 |none=>.skip
def AB(f:Func)(n:Nat):Code:=(Ka (AQ f) n).getD .skip
def AD:Code→Nat→List (Nat×Code)
 |.seq a b,n=>AD a n++AD b (n+loops a)
 |.cond _ a b,n=>AD a n++AD b (n+loops a)
 |.block _ c,n=>AD c n
 |.loop c,n=>[(n,c)]
 |_,_=>[]
def AKB(P:Program)(np:Nat)(h:Hints):List (Nat×Code)→Prop
 |[]=>True
 |p::l=>Aa P np (.loop p.2) (h.loop p.1)∧AKB P np h l
theorem AKA{P:Program}{np:Nat}{h:Hints}:∀ {a b:List (Nat×Code)},AKB P np h (a++b)→AKB P np h a∧AKB P np h b:=by
 intro a
 induction a with
 |nil=>exact fun h=>⟨trivial,h⟩
 |cons p a ih=>intro b h;exact⟨⟨h.1,(ih h.2).1⟩,(ih h.2).2⟩
theorem AUn{P:Program}{np:Nat}{h:Hints}:∀ (c:Code) (n:Nat),AKB P np h (AD c n)→Du P np h c n:=by
 intro c
 induction c with
 |seq a b iha ihb=>intro n hl;have:=AKA hl;exact⟨iha n this.1,ihb _ this.2⟩
 |cond c a b iha ihb=>intro n hl;have:=AKA hl;exact⟨iha n this.1,ihb _ this.2⟩
 |block id c ih=>intro n hl;exact ih n hl
 |loop c ih=>intro n hl;exact hl.1
 |_=>intro n _;trivial
theorem AA{P:Program}{np:Nat}{h:Hints}{c:Code}{n:Nat}{l:List (Nat×Code)}(e:AD c n=l)(a:AKB P np h l):Du P np h c n:=AUn c n (by rw[e];exact a)
def AW(P:Program)(E:Env):Prop:=(∀ g,AO P g (E.spec g))∧Ir E
def Env.none:Env:={ spec:=fun _ _ _ _ _ _ _=>Option.none,loc:=fun _=>false,loc2:=fun _=>true }
theorem Env.Aa1{P:Program}:AW P Env.none:=⟨fun g R args H fz slot k r h=>by simp[Env.none]at h,fun g h=>by simp[Env.none]at h,fun g _ R args H H' fz fz' slot k S _ _ _=>rfl⟩
def Env.ext(E:Env)(g:FuncId)(loc loc2:Bool)(s:Spec):Env where
 spec x:=match Nat.beq x g with
  |true=>s
  |false=>E.spec x
 loc x:=match Nat.beq x g with
  |true=>loc
  |false=>E.loc x
 loc2 x:=match Nat.beq x g with
  |true=>loc2
  |false=>E.loc2 x
theorem Env.AZ{P:Program}{E:Env}{g:FuncId}{loc loc2:Bool}{s:Spec}(h:AW P E)(hs:AO P g s)(hl:loc=true→GF s)(hl2:loc2=true→OH s):AW P (E.ext g loc loc2 s):=by
 refine⟨?_,?_,?_⟩
 ·intro x
  simp only[Env.ext]
  cases hx:Nat.beq x g with
  |true=>have:=Aqi hx;subst this;exact hs
  |false=>exact h.1 x
 ·intro x hx
  simp only[Env.ext]at hx ⊢
  cases hb:Nat.beq x g with
  |true=>rw[hb]at hx;exact hl hx
  |false=>rw[hb]at hx;exact h.2.1 x hx
 ·intro x hx
  simp only[Env.ext]at hx ⊢
  cases hb:Nat.beq x g with
  |true=>rw[hb]at hx;exact hl2 hx
  |false=>rw[hb]at hx;exact h.2.2 x hx
section
variable {P:Program} {E:Env} {h:Hints} {g:FuncId} {fn:Func}
theorem Abi(hb:fn.body.isSome=true):fn.body=some (AQ fn):=by
 unfold AQ
 cases h:fn.body with
 |none=>rw[h]at hb;cases hb
 |some c=>rfl
theorem AH (hE : AW P E) (hf : P.funcs[g]? = some fn) (hb : fn.body.isSome = true) (hn : (fn.name == "runtime.NumGoroutine") = false)
  {np na:Nat} (hna:(Nat.ble na fn.ntmps)=true) {its outs:AE} {rs:List RS} {f:Ci (leaves its)→Option (Ci (leaves outs))} (hfun:∀ x,f x=AK np P E h fn its outs rs x) (hl:Du P np h (AQ fn) 0) :
  AO P g (AF np na its outs rs f):=
 Ady hE.1 hE.2 hf (Abi hb) (Ip hf hb hn) (AsF hna) hfun hl
theorem CX (hE : AW P E) (hf : P.funcs[g]? = some fn) (hb : fn.body.isSome = true) (hn : (fn.name == "runtime.NumGoroutine") = false) (hl : loops (AQ fn) = 0) : AO P g (Co P E h fn) :=
 ASM hE.1 hE.2 hf (Abi hb) (Ip hf hb hn) hl
theorem AT{h':Hints}(hE:AW P E){np nt n:Nat}{body:Code}{its:AE}{os:Ao}{stp:Ci (leaves its)→Option (Ci (leaves its)⊕AHi os)}
  (hstep:∀ v,stp v=roundOf P E h' n np nt body its os v) (hl:Du P np h' body n):Aa P np (.loop body) (Ab np nt its os stp):=AeI hE.1 hE.2 hstep hl
def AJX:AE→Bool
 |[]=>true
 |(.tmp _,.dat _)::r=>AJX r
 |_::_=>false
theorem Afc{H H':List Ob}{tm:List AV}(ha:∀ id∈BF tm,H[id]? = H'[id]?):∀ (its:AE) (fz fz':List Bool),AJX its=true→dec tm H its fz []=dec tm H' its fz' []:=by
 intro its
 induction its with
 |nil=>intro fz fz' _;rfl
 |cons p r ih=>
  intro fz fz' hd
  obtain⟨l,c⟩:=p
  cases l<;>cases c<;>simp only[AJX]at hd<;>try (cases hd;done)
  rename_i t ty
  simp only[dec,look]
  cases hv:tm[t]? with
  |none=>rfl
  |some v=>
   have hsub:∀ id∈Ay v,H[id]? = H'[id]? := fun id hid=>ha id (by
    clear ih hd ha
    induction tm generalizing t with
    |nil=>simp at hv
    |cons a tm iht=>
     cases t with
     |zero=>simp at hv;subst hv;simp[BF,hid]
     |succ t=>simp only[BF,ApR];exact .inr (iht t (by simpa using hv)))
   simp only
   rw[Bg ty v hsub]
   cases FE H' ty v with
   |none=>rfl
   |some q=>
    obtain⟨x,f⟩:=q
    simp only
    have hfr:f.all (fresh? [])=true:=by simp[fresh?]
    rw[hfr]
    simp only
    rw[ih (Al f fz) (Al f fz') hd]
theorem AeZ:∀ (n slot:Nat),Cr n [] slot=List.range' slot n:=by
 intro n
 induction n with
 |zero=>intro slot;rfl
 |succ n ih=>intro slot;simp only[Cr,List.range'_succ];rw[ih]
theorem X2{H H':List Ob}{fz fz':List Bool}:∀ (ids:List Nat),(∀ i∈ids,Au H fz i=Au H' fz' i)→FN H fz ids []=FN H' fz' ids []:=by
 intro ids
 induction ids with
 |nil=>intro _;rfl
 |cons a ids ih=>
  intro h
  simp only[FN,List.tail_nil]
  rw[h a (by simp),ih fun i hi=>h i (by simp[hi])]
theorem AZJ{H:List Ob}{tm:List AV}:∀ (its:AE) (fz:List Bool) (bs:List Bnd) (x:Ci (leaves its)) (bs':List Bnd) (fr:List Nat),AJX its=true→dec tm H its fz bs=some (x,bs',fr)→bs'=bs:=by
 intro its
 induction its with
 |nil=>intro fz bs x bs' fr _ h;simp only[dec,ApN]at h;cases h;rfl
 |cons p r ih=>
  intro fz bs x bs' fr hd h
  obtain⟨l,c⟩:=p
  cases l<;>cases c<;>simp only[AJX]at hd<;>try (cases hd;done)
  simp only[dec]at h
  split at h
  ·split at h
   ·split at h
    ·split at h
     ·rename_i xs bs1 g hdd
      simp only[ApN]at h
      cases h
      exact ih _ _ _ _ _ hd hdd
     ·cases h
    ·cases h
   ·cases h
  ·cases h
theorem AI{np na:Nat}{its outs:AE}{rs:List RS}{f:Ci (leaves its)→Option (Ci (leaves outs))}(hd:AJX its=true)(hn:Nat.ble (Ep outs) 4=true):GF (AF np na its outs rs f):=by
 intro R args H H' fz fz' slot k ha
 unfold AF
 rw[Afc ha.heap its fz fz' hd]
 split
 ·rfl
 ·rename_i x bs fr hdec
  have hbs:=AZJ its fz' [] x bs fr hd hdec
  subst hbs
  split
  ·rfl
  ·split
   ·rfl
   ·rename_i y hy
    simp only[List.take_nil,List.drop_nil]
    have hfree:∀ (g:List Nat) (i:Nat),i∈Cr (Ep outs) [] slot→Au H (Al g fz) i=Au H' (Al g fz') i:=by
     intro g i hi
     rw[AeZ,Asd]at hi
     have:=AsF hn
     exact Dm ha hi.1 (by omega) g
    unfold NH
    rw[show FN H fz (Cr (Ep outs) [] slot) []=FN H' fz' (Cr (Ep outs) [] slot) []from X2 _ (hfree []),X2 _ (hfree fr)]
end
end Go.Pev
end
section
namespace Go.Pev
open Go.RowKit
def LO{α:Type}(xs:List α):Option (List α):=match Oy (AM xs)with
 |true=>some xs
 |false=>none
def QJ[Lk]{α:Type}(xs:List α):Option (List α):=Lk.f (LO xs)
theorem AJd{α:Type}(xs:List α):QJ xs=LO xs:=AJ _
noncomputable def El(e:TypeId)(t:Ty):Spec:=fun R args H fz slot k=>
 match args with
 |[x]=>match FE H (.slice t) x with
  |some (xs,_)=>match(QJ xs:Option (List t.den))with
   |none=>none
   |some y=>(match Au H fz slot with|true=>k (.own slot) { objs:=[(slot,.arr e t y)] }|false=>none)
  |none=>none
 |_=>none
def ACy:Code→Nat→List Oper
 |.region id ops _,n=>if id=n then ops.toList else []
 |.seq a b,n=>ACy a n++ACy b n
 |.cond _ a b,n=>ACy a n++ACy b n
 |.block _ c,n=>ACy c n
 |.loop c,n=>ACy c n
 |_,_=>[]
def Bb(fn:Func)(n i:Nat):Oper:=((ACy (AQ fn) n)[i]?).getD default
structure Lv(P:Program)(fn:Func)(T e:TypeId)(t:Ty):Prop where
 body:fn.body=some (.seq (.region 0 #[Bb fn 0 0] false) (.seq (.seq (.region 1 #[Bb fn 1 0,Bb fn 1 1] false) (.cond (.tmp 4) (.seq (.region 2 #[Bb fn 2 0] false) .ret) .skip)) (.seq (.region 3 #[Bb fn 3 0,Bb fn 3 1,Bb fn 3 2,Bb fn 3 3] false) .ret)))
 nt:fn.ntmps=8
 res:fn.results = #[.tmp 2]
 d:(Bb fn 0 0).dst=some 2∧(Bb fn 1 0).dst=some 3∧(Bb fn 1 1).dst=some 4∧(Bb fn 2 0).dst=some 2∧(Bb fn 3 0).dst=some 5∧(Bb fn 3 1).dst=some 6∧(Bb fn 3 2).dst=some 7∧(Bb fn 3 3).dst=some 2
 g:(Bb fn 0 0).guard=none∧(Bb fn 1 0).guard=none∧(Bb fn 1 1).guard=none∧(Bb fn 2 0).guard=none∧(Bb fn 3 0).guard=none∧(Bb fn 3 1).guard=none∧(Bb fn 3 2).guard=none∧(Bb fn 3 3).guard=none
 o00:(Bb fn 0 0).op = .assign (.const (.slice none 0 0))
 o10:(Bb fn 1 0).op = .move (.tmp 0)
 o11:(Bb fn 1 1).op = .binOp .eql T (.tmp 3) (.const (.slice none 0 0)) T
 o20:(Bb fn 2 0).op = .assign (.const (.slice none 0 0))
 o30:(Bb fn 3 0).op = .buildSlice T 0 #[]
 o31:(Bb fn 3 1).op = .move (.tmp 0)
 o32:(Bb fn 3 2).op = .call { callee:=.builtin .append,args:=#[.tmp 5,.tmp 6],argTypes:=#[T,T] }
 o33:(Bb fn 3 3).op = .assign (.tmp 7)
 sl:sliceAt P T=some (e,t)
 z:(zeroAt P e).isSome=true
 by1:(P.info? e).map (fun i=>decide (i.bytes≤1024))=some true
section
variable {P:Program} {g:FuncId}
theorem B0{ops:Array Oper}{Q:Exit→Act→World→Prop}{i:Nat}{rest:List Nat}{a:Act}{w:World}{o:Oper}(ho:ops[i]? = some o)(hg:o.guard=none)(h:o.wp P a w (wpOps P ops Q rest) Q):wpOps P ops Q (i::rest) a w:=by
 simp only[wpOps,ho]
 rw[ApZ (by simp[Region.wanted,hg])]
 exact .inl h
theorem B1{o:Oper}{a:Act}{w w':World}{next:Act→World→Prop}{Q:Exit→Act→World→Prop}{u:Value}(h:(execOp a.eval o).run P w = .ok (.value u) w')(hn:next (a.put o.dst u) w'):o.wp P a w next Q:=by
 unfold Oper.wp;rw[h];exact hn
variable {fn:Func} {T e:TypeId} {t:Ty}
theorem Jz{P:Program}{w:World}{ρ:Operand→Value}{o:Oper}{x:Operand}(h:o.op = .move x):(execOp ρ o).run P w = .ok (.value (ρ x)) w:=by simp[execOp,h]
theorem Gf{P:Program}{w:World}{ρ:Operand→Value}{o:Oper}{x:Operand}(h:o.op = .assign x):(execOp ρ o).run P w = .ok (.value (ρ x)) w:=by simp[execOp,h]
theorem AE3 (hs : Lv P fn T e t) (hf : P.funcs[g]? = some fn) (hn : (fn.name == "runtime.NumGoroutine") = false) : AO P g (El e t) := by
 intro R args H fz slot k r hk
 unfold El at hk
 split at hk
 ·rename_i x
  split at hk
  ·rename_i xs fr hx
   split at hk
   ·cases hk
   ·rename_i y hy
    split at hk
    ·rename_i hfree
     refine⟨_,_,hk,fun R' k'=>by simp only[El,hx,hy,hfree],Ip hf (by rw[hs.body];rfl) hn,fun w F m vals hi hr => ?_⟩
     rw[AJd]at hy
     unfold LO at hy
     split at hy
     ·rename_i hfit
      simp only[ApN]at hy;subst hy
      have hr0:=hr
      unfold Ag at hr
      obtain⟨v,vs',rfl,hrv,hnil⟩:=hr
      unfold Ag at hnil;subst hnil
      obtain⟨hu,hty0,hpos⟩:=Cs hs.sl
      obtain⟨zz,hzz⟩:=Aq3.1 hs.z
      obtain⟨t',cs'⟩:=zz
      obtain⟨hty',hcs',i,z,hi0,hz0,hok,hsz,hza⟩:=B9 hzz
      subst hcs'
      have:t'=t:=by rw[hty0]at hty';exact(AqP hty').symm
      subst this
      have hzs:z.cells.size=i.size:=by
       have hzd:=B8 (w:=default) (F:=fun _=>False) t' _ hok
       rw[hsz,← Apl];exact Dat.length t' hzd
      have hby':i.bytes≤1024:=by simpa [hi0]using hs.by1
      obtain⟨A,c,rfl,q2,q3,news,q4,q5⟩:=EY hi hx hrv
      have hfit':xs.length≤4294967296:=by
       have:(xs.length:Int)≤4294967296:=(VX _).1 hfit
       omega
      refine calls_of_wp hf hs.body ?_
      obtain⟨d0,d1,d2,d3,d4,d5,d6,d7⟩:=hs.d
      obtain⟨g0,g1,g2,g3,g4,g5,g6,g7⟩:=hs.g
      have hres:∀ (tm:Array Value) (w0:World),(results fn tm).run P w0 = .ok (tm.getD 2 undef) w0:=fun tm w0=>by simp[results,hs.res]
      refine wp_seq (wp_region ?_)
      simp only[Aqg,ApW,Apk,AqG,Ar5,Ap9]
      refine B0 (by rfl) g0 (B1 (Gf hs.o00) ?_)
      refine wp_seq (wp_seq (wp_region ?_))
      simp only[Aqg,ApW,Apk,AqG,Ar5,Ap9,Aps]
      refine B0 (by rfl) g1 (B1 (Jz hs.o10) ?_)
      refine B0 (by rfl) g2 (B1 (u:=.bool A.isNone) (w':=w) (by simp[execOp,hs.o11,Act.eval,Act.put,d0,d1,hs.nt,eqGuard,Lib.run_eql_slice_nil _ _ _ _ _ _ _ _ hu]) ?_)
      cases A with
      |none=>
       have hxs:xs=[]:=by
        cases xs with
        |nil=>rfl
        |cons a b=>exact absurd (q3 (by simp)) (by simp)
       subst hxs
       refine wp_cond_true (by simp[Act.eval,Act.put,d0,d1,d2,hs.nt]) ?_
       refine wp_seq (wp_region ?_)
       simp only[Aqg,ApW,Apk,AqG,Ar5,Ap9]
       refine B0 (by rfl) g3 (B1 (Gf hs.o20) ?_)
       refine wp_ret ?_
       refine⟨by simp[Act.put,d0,d1,d2,d3],_,hres _ _,?_⟩
       obtain⟨m',hg,hrep⟩:=DW (w:=w) hi hfree e hpos none
       refine⟨_,rfl,F,m',hg,?_⟩
       show Rep _ _ _ (H.set slot _) _ _
       simpa [Act.put,Act.eval,d0,d1,d2,d3,hs.nt]using hrep
      |some ad=>
       refine wp_cond_false (by simp[Act.eval,Act.put,d0,d1,d2,hs.nt]) ?_
       refine wp_skip ?_
       refine wp_seq (wp_region ?_)
       simp only[Aqg,ApW,Apk,AqG,Ar5,Ap9,Aps]
       refine B0 (by rfl) g4 (B1 (u:=.slice (some ⟨w.heap.size,0,none⟩) 0 0) (w':=w.alloc (.cells #[] e)) (by
        have:=HY (P:=P) (w:=w) (len:=0) (parts:=#[]) (us:=#[]) hu hi0 hz0 hsz (by omega) (by simp[Instr.fill])
        simp[execOp,hs.o30,this]) ?_)
       refine B0 (by rfl) g5 (B1 (Jz hs.o31) ?_)
       have hga:=Av.grow (w':=w.alloc (.cells #[] e)) hi rfl rfl rfl (by simp) (fun b hb=>Below.heap_alloc w _ b hb)
       obtain⟨v,w',m',hrun,hg,hrep⟩:=FG (P:=P) (T:=T) (ty:=(Bb fn 3 2).type) hga.2 hfree hu hi0 hz0 hzs hsz hpos hby' hfit' (some ⟨w.heap.size,0,none⟩) (A:=some ad) (c:=c) (ys:=xs) (news:=news) (fun _=>rfl)
        (BN (fun x _ cs hx=>hx.mono (fun a ha=>by simp[World.cell?,Below.heap_alloc w _ _ (hi.lt _ ha)]) (fun _ h=>h) t') q4) (fun ad' h j u hu'=>by
         have:=q5 ad' h j u hu'
         exact Lib.cell?_alloc_some _ this)
       refine B0 (by rfl) g6 (B1 (u:=v) (w':=w') (by
        simp[execOp,hs.o32,resolve,invoke,builtin,Act.eval,Act.put,d0,d1,d2,d4,d5,hs.nt,hrun]) ?_)
       refine B0 (by rfl) g7 (B1 (Gf hs.o33) ?_)
       refine wp_ret ?_
       refine⟨by simp[Act.put,d0,d1,d2,d4,d5,d6,d7],_,hres _ _,?_⟩
       refine⟨_,rfl,F,m',hga.trans hg,?_⟩
       show Rep _ _ _ (H.set slot _) _ _
       simpa [Act.put,Act.eval,d0,d1,d2,d4,d5,d6,d7,hs.nt]using hrep
     ·cases hy
    ·cases hk
  ·cases hk
 ·cases hk
theorem CR(e:TypeId)(t:Ty):GF (El e t):=by
 intro R args H H' fz fz' slot k ha
 unfold El
 cases args with
 |nil=>rfl
 |cons x r=>cases r with
  |cons y r=>rfl
  |nil=>
   simp only
   rw[Bg (.slice t) x fun id hid=>ha.heap id (by simpa [BF]using hid)]
   have:=Dm ha (s:=slot) (ApY _) (by omega) []
   simp only[Al]at this
   rw[this]
end
end Go.Pev
end
