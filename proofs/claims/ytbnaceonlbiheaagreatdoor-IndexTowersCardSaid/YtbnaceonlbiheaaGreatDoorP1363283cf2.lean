/- A part of the proofs of this seat: PevOps7 PevOps8 PevOps9 PevOps10 PevKeep PevPrs PevRows2 PevOps12 PevMore PevKeys PevKeys2 PevIface PevOps11 PevCode PevLocal PevDraw PevDraw2 PevDec PevDec2 PevFlow PevPan. -/
import Derived.Test.YtbnaceonlbiheaaGreatDoorPd1147d2565
import Derived.IntWalk
import Derived.Laws.StructEq
import Derived.Laws.BytesArg
set_option linter.unusedVariables false
set_option linter.unusedSimpArgs false
set_option linter.unusedSectionVars false
set_option maxRecDepth 100000
section
namespace Go.Pev
open Go.RowKit
section
variable {P:Program} {E:Env}
theorem Tt{T:TypeId}{size:Nat}{ag:Bool}(h:elemAt P T=some (size,ag)):∃ n e i,P.underlying T=some (.array n e)∧P.info? e=some i∧i.size=size∧Ew P e=some ag:=by unfold elemAt at h;grind
theorem bM{x:Operand}{s:ByteArray}(h:Y9 x=some s):x = .const (.string s):=by unfold Y9 at h;grind
theorem AAR{k:IntKind}:∀ {cs:List AV} {ns:List Int} {i:Nat} {d:Int},Oo k cs=some ns→ns[i]? = some d→cs[i]? = some (.data (.int k) d):=by
 intro cs;induction cs with
  |nil=>intro ns i d h hi;simp only[Oo,AXa]at h;grind
  |cons c cs ih=>
   intro ns i d h hi;cases c with
    |data t x=>
     cases t with
      |int j=>simp only[Oo]at h;grind
      |_=>simp[Oo]at h
    |_=>simp[Oo]at h
theorem tU(T:TypeId)(x y:Operand):Claim P E (.index T x y):=by
 intro R ty ρ H fz slot k r h;simp only[evalOp,LG]at h;split at h
 ·rename_i s hcs;split at h
  ·rename_i j i hu hy;split at h
   ·rename_i b hb;refine⟨_,_,h,fun R' k'=>by simp only[evalOp,LG,hcs,hu,hy,hb],fun w F m a o next Q hop hty hi hr hn => ?_⟩;have e2:=Bn (hy▸hr y);have hx:=bM hcs;subst hx;rw[idx_eq]at hb;unfold YX at hb;split at hb;cases hb;rename_i hi0;have hi1:(0:Int)≤i:=Int.not_lt.1 hi0;have he:a.eval (.const (.string s)) = .string s:=rfl;have hrun:(execOp a.eval o).run P w = .ok (.value (.int .u8 b)) w:=by
     have hb':s[i.toNat]? = some (UInt8.ofNat b.toNat)∧((UInt8.ofNat b.toNat).toNat:Int)=b:=by
      unfold bytesOf at hb;rw[AZS,AXm]at hb;obtain⟨c,h1,rfl⟩:=hb;have e:UInt8.ofNat (c.toNat:Int).toNat=c:=by simp
      rw[e];refine⟨?_,rfl⟩;rw[AYY]at h1;have hlt:i.toNat<s.data.size:=by grind
      rw[AYt hlt]at h1;simp only[AXa]at h1;have hlt2:i.toNat<s.size:=hlt;rw[getElem?_pos s i.toNat hlt2];exact AYh some h1
     have h2:=hb'.2;generalize UInt8.ofNat b.toNat=c at hb' h2;subst h2;simp[execOp,hop,e2,he,Instr.index,asIntOf,run_underlying hu,hi1,hb'.1]
    unfold Oper.wp;rw[hrun];have:=hn (.int .u8 b) w F m (BQ.refl hi) (Bd _ _);exact this
   grind
  grind
 rename_i hcs;split at h;rename_i hE;split at h;rename_i n e j i he hu hy;split at h;rename_i cs kk hc hag hkk;split at h;rename_i ns hns;split at h;rename_i hd;split at h;cases h;rename_i d hid;refine⟨_,_,h,fun R' k'=>by simp only[evalOp,LG,hcs,hE,he,hu,hy,hc,hag,hkk,hns,hd,hid],BB fun w F m ρc o hop hty hi hr => ?_⟩;obtain⟨n',e',i',hu',hi0,hsz,ha⟩:=Tt he;rw[hu]at hu';cases hu';simp only[AXc]at hd;obtain⟨a1,a2,a3⟩:=BK hid;obtain⟨vs,e1⟩:=KP hag (hr x);have e2:=Bn (hy▸hr y);have hrc:=cells?_ok hc (hr x);have h1:=cells?_one hc (hr x);rw[e1]at hrc h1;have hl:loadCells false i'.size (cs.drop (i.toNat*i'.size))=some (.data (.int kk) d):=by rw[hsz,AZ0];unfold loadCells;simp only;rw[List.head?_drop];exact AAR hns a3
 obtain⟨u,q1,q2⟩:=XI (P:=P) hi0 ha hl hrc h1;refine⟨u,?_,q2⟩;simp only[Value.cells]at q1;have hd1:0≤i:=a1;have hd2:i<(n:Int):=by grind
 simp[execOp,hop,e1,e2,Instr.index,asIntOf,run_underlying hu,hd1,hd2,run_sizeOf hi0,q1];grind;grind;grind;grind;rename_i hE;split at h;rename_i size ag n e j i he hu hy;split at h;rename_i hd;split at h;rename_i cs hc hag;split at h;rename_i v hl;refine⟨_,_,h,fun R' k'=>by simp only[evalOp,LG,hcs,hE,he,hu,hy,hd,hc,hag,hl],BB fun w F m ρc o hop hty hi hr => ?_⟩;obtain⟨n',e',i',hu',hi0,rfl,ha⟩:=Tt he;rw[hu]at hu';cases hu';simp only[AXc]at hd;obtain⟨vs,e1⟩:=KP hag (hr x);have e2:=Bn (hy▸hr y);have hrc:=cells?_ok hc (hr x);have h1:=cells?_one hc (hr x);rw[e1]at hrc h1;obtain⟨u,q1,q2⟩:=XI (P:=P) hi0 ha hl hrc h1;refine⟨u,?_,q2⟩;simp only[Value.cells]at q1;have hd1:0≤i:=hd.1;have hd2:i<(n:Int):=hd.2;simp[execOp,hop,e1,e2,Instr.index,asIntOf,run_underlying hu,hd1,hd2,run_sizeOf hi0,q1];grind;grind;grind;grind
theorem D0{w:World}{T e:TypeId}{i:TypeInfo}(hu:P.underlying T=some (.slice e))(hi:P.info? e=some i)(ad:Addr)(len cap:Nat)(k:IntKind){n:Int}(h0:0≤n)(h1:n<len):
  (Instr.indexAt T (.slice (some ad) len cap) (.int k n)).run P w = .ok (.pointer (some (ad.add (n.toNat*i.size)))) w:=by simp[Instr.indexAt,asIntOf,run_underlying hu,h0,h1,run_sizeOf hi]
theorem CS{w w':World}{ρc:Operand→Value}{o:Oper}{T:TypeId}{x y:Operand}{v n u:Value}(hop:o.op = .indexAddr T x y)(e1:ρc x=v)(e2:ρc y=n)
  (hrun:(Instr.indexAt T v n).run P w = .ok u w'):(execOp ρc o).run P w = .ok (.value u) w':=by simp[execOp,hop,e1,e2,hrun]
theorem VS(T:TypeId)(x y:Operand):Claim P E (.indexAddr T x y):=by
 intro R ty ρ H fz slot k r h;simp only[evalOp,CH]at h;split at h;rename_i e j i hu hy;split at h;rename_i t xs hx;split at h;rename_i hsz;split at h;rename_i d hd;refine⟨_,_,h,fun R' k'=>by simp only[evalOp,CH,hu,hy,hx,hsz,hd],BB fun w F m ρc o hop hty hi hr => ?_⟩;simp only[AXc]at hsz;obtain⟨i',hi0,hsz'⟩:=Bs hsz;obtain⟨a1,a2,a3⟩:=BK hd;have hrx:=hr x;rw[hx]at hrx;have hrx:Dat w F (.slice t) xs [ρc x]:=hrx;obtain⟨a,cap,e1,e2,e3⟩:=hrx;simp only[AXz,AZv]at e1;have hne:xs≠[]:=by grind
 obtain⟨ad,row,rfl,q2,q3,q4⟩:=e3 hne;have hk:=fun(x:t.den) cs (h:Dat w F t x cs)=>Dat.length t h;have hg:=L5 hk q3 a3;refine⟨_,CS hop e1 (Bn (hy▸hr y)) (D0 hu hi0 ad _ cap j a1 a2),?_⟩;unfold Rep;refine⟨_,(row.drop (i.toNat*t.size)).take t.size,rfl,fun _=>by rw[H5];exact q2,Il t hg,Dat.HY t hg,fun k u hu' => ?_⟩;rw[add_add,hsz'];grind;grind;grind;rename_i id hx;split at h;rename_i T' t xs ho;split at h;rename_i hsz;split at h;rename_i d hd;refine⟨_,_,h,fun R' k'=>by simp only[evalOp,CH,hu,hy,hx,ho,hsz,hd],BB fun w F m ρc o hop hty hi hr => ?_⟩;simp only[AXc]at hsz;obtain⟨i',hi0,hsz'⟩:=Bs hsz;obtain⟨a1,a2,a3⟩:=BK hd;have hrx:=hr x;rw[hx]at hrx;unfold Rep at hrx;rw[ho]at hrx;obtain⟨hpos,hob⟩:=hi.obj id _ ho;cases hm:m id with
  |none=>grind
  |some p=>obtain⟨b,cap⟩:=p;rw[hm]at hrx;simp only[Bq]at hrx;refine⟨_,CS hop hrx (Bn (hy▸hr y)) (D0 hu hi0 ⟨b,0,none⟩ _ cap j a1 a2),?_⟩;unfold Rep;rw[ho];exact⟨by unfold A3;omega,b,cap,hm,by rw[Cs,hsz'];simp[A3]⟩
 grind;grind;rename_i T' tgt is ho;split at h;rename_i hsz;split at h;rename_i d hd;refine⟨_,_,h,fun R' k'=>by simp only[evalOp,CH,hu,hy,hx,ho,hsz,hd],BB fun w F m ρc o hop hty hi hr => ?_⟩;simp only[AXc]at hsz;obtain⟨i',hi0,hsz'⟩:=Bs hsz;obtain⟨a1,a2,a3⟩:=BK hd;have hrx:=hr x;rw[hx]at hrx;unfold Rep at hrx;rw[ho]at hrx;have hob:=hi.obj id _ ho;cases hm:m id with
  |none=>rw[hm]at hob;have hob:is=[]:=hob;grind
  |some p=>obtain⟨b,cap⟩:=p;rw[hm]at hrx;simp only[Bq]at hrx;refine⟨_,CS hop hrx (Bn (hy▸hr y)) (D0 hu hi0 ⟨b,0,none⟩ _ cap j a1 a2),?_⟩;unfold Rep;rw[ho];exact⟨by unfold A3;omega,b,cap,hm,by rw[Cs,hsz'];simp[A3]⟩
 grind;grind;rename_i T' e' t xs ver out ho;split at h;rename_i hsz;split at h;rename_i d hd;refine⟨_,_,h,fun R' k'=>by simp only[evalOp,CH,hu,hy,hx,ho,hsz,hd],BB fun w F m ρc o hop hty hi hr => ?_⟩;simp only[AXc]at hsz;obtain⟨i',hi0,hsz'⟩:=Bs hsz;obtain⟨a1,a2,a3⟩:=BK hd;have hrx:=hr x;rw[hx]at hrx;unfold Rep at hrx;rw[ho]at hrx;obtain⟨hpos,hob⟩:=hi.obj id _ ho;cases hm:m id with
  |none=>grind
  |some p=>obtain⟨b,cap⟩:=p;rw[hm]at hrx;simp only[Bq]at hrx;refine⟨_,CS hop hrx (Bn (hy▸hr y)) (D0 hu hi0 ⟨b,0,none⟩ _ cap j a1 a2),?_⟩;unfold Rep;rw[ho];exact⟨by unfold A3;omega,b,cap,hm,by rw[Cs,hsz'];simp[A3]⟩
 grind;grind;grind;rename_i id off n hx;split at h;rename_i T' t xs ho;split at h;rename_i hsz;split at h;rename_i d hd;refine⟨_,_,h,fun R' k'=>by simp only[evalOp,CH,hu,hy,hx,ho,hsz,hd],BB fun w F m ρc o hop hty hi hr => ?_⟩;simp only[AXc]at hsz;obtain⟨i',hi0,hsz'⟩:=Bs hsz;obtain⟨a1,a2,a3⟩:=BK hd;have hrx:=hr x;rw[hx]at hrx;unfold Rep at hrx;rw[ho]at hrx;obtain⟨hle,hrx⟩:=hrx;have hcl:(E' off n xs).length=n:=by unfold E';grind
 rw[hcl]at a2;obtain⟨hpos,hob⟩:=hi.obj id _ ho;cases hm:m id with
  |none=>grind
  |some p=>obtain⟨b,cap⟩:=p;rw[hm]at hrx hob;obtain⟨vs,row,e1,e2,_⟩:=hob;obtain⟨a,e3,e4⟩:=hrx;have e4:=e4 (by omega);subst e4;refine⟨_,CS hop e3 (Bn (hy▸hr y)) (D0 hu hi0 ⟨b,off*t.size,none⟩ _ _ j a1 a2),?_⟩;unfold Rep;rw[ho];exact⟨by unfold A3;omega,b,cap,hm,by rw[Cs,hsz'];simp[A3,AYr]⟩
 grind;grind;grind;grind;rename_i n e j i hu hy;cases hat:ZN H n (ρ x)with
  |some q=>
   obtain⟨id,s,len⟩:=q;rw[hat]at h;simp only at h;split at h;rename_i hs;split at h;rename_i hc;refine⟨_,_,h,fun R' k'=>by simp only[evalOp,CH,hu,hy,hat,hs,hc],BB fun w F m ρc o hop hty hi hr => ?_⟩;simp only[AXc]at hs;obtain⟨i',hi0,hsz'⟩:=Bs hs;simp only[AXd,BZ,BM,AXc]at hc;obtain⟨hd1,hd2,hd3⟩:=hc;have hd1:(0:Int)≤i:=hd1;have hd2:i<(n:Int):=hd2;unfold ZN at hat;split at hat;rename_i id' n' hx;split at hat;rename_i T' t xs ho;split at hat;cases hat;have hrx:=hr x;rw[hx]at hrx;unfold Rep Fp at hrx;rw[ho]at hrx;obtain⟨_,b,e1,e2⟩:=hrx;have hrun:(Instr.indexAt T (.pointer (some ⟨b,0,none⟩)) (.int j i)).run P w = .ok (.pointer (some ((⟨b,0,none⟩:Addr).add (i.toNat*i'.size)))) w:=by simp[Instr.indexAt,asIntOf,run_underlying hu,Instr.sureAddr,hd1,hd2,run_sizeOf hi0]
   refine⟨_,CS hop e2 (Bn (hy▸hr y)) hrun,?_⟩;unfold Rep;rw[ho];refine⟨?_,b,_,e1,by rw[Cs,hsz'];simp[A3]⟩;exact(Int.toNat_lt (n:=List.length (α:=t.den) xs) hd1).2 hd3;grind;grind;grind;grind;grind
  |none=>rw[hat]at h;simp only at h;cases hg:gAt (ρ x)with
  |some q=>
   obtain⟨kk,ns⟩:=q;rw[hg]at h;simp only at h;split at h;rename_i hs;split at h;rename_i hc;refine⟨_,_,h,fun R' k'=>by simp only[evalOp,CH,hu,hy,hat,hg,hs,hc],BB fun w F m ρc o hop hty hi hr => ?_⟩;simp only[AXc]at hs;obtain⟨i',hi0,hsz'⟩:=Bs hs;simp only[AXd,BZ,BM,AXc]at hc;obtain⟨hd1,hd2,hd3⟩:=hc;have hd1:(0:Int)≤i:=hd1;have hd2:i<(n:Int):=hd2;unfold gAt at hg;split at hg;rename_i g hx;have hrx:=hr x;rw[hx]at hrx;unfold Rep at hrx;simp only[AXm]at hg;obtain⟨p,hp,hp2⟩:=hg;have hpm:=List.mem_of_find?_eq_some hp;have hpg:p.1=g:=by grind
   obtain⟨g1,g2⟩:=hi.glo p hpm;rw[hp2]at g2;have hrun:(Instr.indexAt T (.pointer (some ⟨g,0,none⟩)) (.int j i)).run P w = .ok (.pointer (some ((⟨g,0,none⟩:Addr).add (i.toNat*i'.size)))) w:=by simp[Instr.indexAt,asIntOf,run_underlying hu,Instr.sureAddr,hd1,hd2,run_sizeOf hi0]
   refine⟨_,CS hop hrx (Bn (hy▸hr y)) hrun,?_⟩;have hlt:i.toNat<ns.length:=(Int.toNat_lt hd1).2 hd3;unfold Rep;refine⟨_,[.int kk (A7 ns (A3 i) 0)],rfl,fun _=>by rw[H5,← hpg];exact g1,?_,fun u hu => ?_,fun jj u hu => ?_⟩;unfold BD;exact⟨_,_,rfl,by unfold Rep CW;exact rfl,by unfold BD;rfl⟩;rw[AYB]at hu;subst hu;rfl;cases jj with
    |zero=>simp only[AYN,AXa]at hu;subst hu;rw[Cs,Cs,hsz',AZ0,AYQ,AZL,← hpg];exact g2 i.toNat _ (by rw[AXj hlt];simp[A7,A3,hlt])
    |succ jj=>grind
   grind;grind;grind
  |none=>
   rw[hg]at h;simp only at h;split at h;rename_i s hs hd;obtain⟨i',hi0,rfl⟩:=Bs hs;have hd':=hd;simp only[AXc]at hd';have hd1:0≤i:=hd'.1;have hd2:i<(n:Int):=hd'.2;have hrun:∀ (w:World) (ad:Addr),(Instr.indexAt T (.pointer (some ad)) (.int j i)).run P w = .ok (.pointer (some (ad.add (i.toNat*i'.size)))) w:=by intro w ad;simp[Instr.indexAt,asIntOf,run_underlying hu,Instr.sureAddr,hd1,hd2,run_sizeOf hi0]
   split at h;rename_i id o' hx;split at h;rename_i hl;obtain⟨cs,ho⟩:=K4 hl;refine⟨_,_,h,fun R' k'=>by have hat':=hat;have hg':=hg;rw[hx]at hat' hg';simp only[evalOp,CH,hu,hy,hat',hg',hs,hd,hx,hl],BB fun w F m ρc o hop hty hi hr => ?_⟩
   obtain⟨b,c,vs,T,e1,e2,_⟩:=Q7 hi ho (hx▸hr x);refine⟨_,CS hop e2 (Bn (hy▸hr y)) (hrun w _),?_⟩;unfold Rep;rw[ho];exact⟨b,c,e1,by rw[Cs]⟩;grind;rename_i id jj s hx;split at h;rename_i hl;obtain⟨T',t,xs,ho⟩:=Ed hl;refine⟨_,_,h,fun R' k'=>by have hat':=hat;have hg':=hg;rw[hx]at hat' hg';simp only[evalOp,CH,hu,hy,hat',hg',hs,hd,hx,hl],BB fun w F m ρc o hop hty hi hr => ?_⟩
   obtain⟨b,c,vs,row,e1,e2,e3,_⟩:=LQ hi ho (hx▸hr x);refine⟨_,CS hop e2 (Bn (hy▸hr y)) (hrun w _),?_⟩;unfold Rep;rw[ho];exact⟨e3,b,c,e1,by rw[Cs,Nat.add_assoc]⟩;grind;rename_i cs hx;refine⟨_,_,h,fun R' k'=>by have hat':=hat;have hg':=hg;rw[hx]at hat' hg';simp only[evalOp,CH,hu,hy,hat',hg',hs,hd,hx],BB fun w F m ρc o hop hty hi hr => ?_⟩
   have hrx:=hr x;rw[hx]at hrx;unfold Rep at hrx;obtain⟨ad,us,e1,e2,e3,e4,e5⟩:=hrx;refine⟨_,CS hop e1 (Bn (hy▸hr y)) (hrun w _),?_⟩;unfold Rep;exact⟨_,us.drop (i.toNat*i'.size),rfl,fun hne=>by rw[H5];grind,FL e3 _,fun u hu=>e4 u (AZD hu),fun j u hu=>by rw[add_add];grind⟩
   grind;grind
 grind
end
end Go.Pev
end
section
namespace Go.Pev
open Go.RowKit
section
variable {P:Program} {E:Env}
theorem AK6{α:Type}{a:Array α}{x:α}(h:a.toList=[x]):a = #[x]:=by grind
theorem AUR{α:Type}{a:Array α}{x y:α}(h:a.toList=[x,y]):a = #[x,y]:=by grind
theorem Yr{w:World}{F:Nat→Prop}{a b:Ty}:∀ {es:List (a.den×b.den)} {ms:List MapEntry},I2 w F a b es ms→ms.length=es.length:=by
 intro es;induction es with
  |nil=>rintro ms rfl;rfl
  |cons e es ih=>rintro ms ⟨me,ms',rfl,_,h⟩;grind
theorem Fe{w w':World}{ρc:Operand→Value}{o:Oper}{T:TypeId}{x:Operand}{v u:Value}(hop:o.op = .call { callee:=.builtin .len,args:=#[x],argTypes:=#[T] })(e1:ρc x=v)
  (hrun:(Builtin.len_ #[T] o.type #[v]).run P w = .ok u w'):(execOp ρc o).run P w = .ok (.value u) w':=by simp[execOp,hop,resolve,invoke,builtin,e1,hrun]
theorem CP{w:World}{T e ty:TypeId}(hu:P.underlying T=some (.slice e))(a:Option Addr)(n c:Nat):(Builtin.len_ #[T] ty #[.slice a n c]).run P w = .ok (.int .i64 n) w:=by simp[Builtin.len_,run_underlying hu,goInt]
theorem AKk(args:Array Operand)(ts:Array TypeId):Claim P E (.call { callee:=.builtin .len,args:=args,argTypes:=ts }):=by
 intro R ty ρ H fz slot k r h;simp only[evalOp,Mc]at h;split at h;rename_i x T ha hts;obtain rfl:=AK6 ha;obtain rfl:=AK6 hts;split at h;rename_i e hu;split at h;rename_i t xs hx;refine⟨_,_,h,fun R' k'=>by simp only[evalOp,Mc,hu,hx],BB fun w F m ρc o hop hty hi hr => ?_⟩;have hrx:=hr x;rw[hx]at hrx;have hrx:Dat w F (.slice t) xs [ρc x]:=hrx;obtain⟨a,cap,e1,_⟩:=hrx;simp only[AXz,AZv]at e1;exact⟨_,Fe hop e1 (CP hu _ _ _),Bd _ _⟩;rename_i hx;refine⟨_,_,h,fun R' k'=>by simp only[evalOp,Mc,hu,hx],BB fun w F m ρc o hop hty hi hr => ?_⟩;have hrx:=hr x;rw[hx]at hrx;unfold Rep at hrx;exact⟨_,Fe hop hrx (CP hu _ _ _),Bd _ _⟩;rename_i id hx;split at h;rename_i T' t xs ho;refine⟨_,_,h,fun R' k'=>by simp only[evalOp,Mc,hu,hx,ho],BB fun w F m ρc o hop hty hi hr => ?_⟩;have hrx:=hr x;rw[hx]at hrx;unfold Rep at hrx;rw[ho]at hrx;obtain⟨_,hob⟩:=hi.obj id _ ho;cases hm:m id with
  |none=>rw[hm]at hrx hob;obtain⟨a,e1⟩:=hrx;simp only at hob;subst hob;exact⟨_,Fe hop e1 (CP hu _ _ _),Bd _ _⟩
  |some p=>rw[hm]at hrx;exact⟨_,Fe hop hrx (CP hu _ _ _),Bd _ _⟩
 rename_i T' tgt is ho;refine⟨_,_,h,fun R' k'=>by simp only[evalOp,Mc,hu,hx,ho],BB fun w F m ρc o hop hty hi hr => ?_⟩;have hrx:=hr x;rw[hx]at hrx;unfold Rep at hrx;rw[ho]at hrx;have hob:=hi.obj id _ ho;cases hm:m id with
  |none=>rw[hm]at hrx hob;obtain⟨a,e1⟩:=hrx;have hob:is=[]:=hob;subst hob;exact⟨_,Fe hop e1 (CP hu _ _ _),Bd _ _⟩
  |some p=>rw[hm]at hrx;exact⟨_,Fe hop hrx (CP hu _ _ _),Bd _ _⟩
 grind;rename_i id off n hx;split at h;rename_i hl;obtain⟨T',t,xs,ho⟩:=Ed hl;refine⟨_,_,h,fun R' k'=>by simp only[evalOp,Mc,hu,hx,hl],BB fun w F m ρc o hop hty hi hr => ?_⟩;have hrx:=hr x;rw[hx]at hrx;unfold Rep at hrx;rw[ho]at hrx;obtain⟨_,hrx⟩:=hrx;cases hm:m id with
  |none=>rw[hm]at hrx;obtain⟨a,e1⟩:=hrx;exact⟨_,Fe hop e1 (CP hu _ _ _),Bd _ _⟩
  |some p=>rw[hm]at hrx;obtain⟨a,e1,_⟩:=hrx;exact⟨_,Fe hop e1 (CP hu _ _ _),Bd _ _⟩
 grind;grind;rename_i kt vt hu;split at h;rename_i id hx;split at h;rename_i a b es ho;refine⟨_,_,h,fun R' k'=>by simp only[evalOp,Mc,hu,hx,ho],BB fun w F m ρc o hop hty hi hr => ?_⟩;have hrx:=hr x;rw[hx]at hrx;unfold Rep at hrx;rw[ho]at hrx;obtain⟨bb,c,e1,e2⟩:=hrx;obtain⟨b',c',ms,clock,e3,e4,e5,_⟩:=hi.obj id _ ho;rw[e1]at e3;cases e3;refine⟨_,Fe hop e2 (u:=.int .i64 (ms.size:Int)) ?_,?_⟩;simp[Builtin.len_,run_underlying hu,goInt,getObj,Sem.run,e4];have:=Yr e5;rw[AX0]at this;rw[this];exact Bd _ _;grind;grind;grind;grind
theorem ER{w:World}{F:Nat→Prop}{m:Mp}{H:List Ob}{fz:List Bool}(hi:HI w F m H fz){t:Ty}{v:AV}{ys:List t.den}{fr:List Nat}(h:FM H (.slice t) v=some (ys,fr)){u:Value}(hr:Rep w F m H v u):
  ∃ a cap,u = .slice a ys.length cap∧ys.length≤cap∧(ys≠[]→a.isSome=true)∧∃ news,rows (Dat w F t) ys news∧∀ ad,a=some ad→∀ j u,news[j]? = some u→w.cell? (ad.add j)=some u:=by
 change ES H (.slice t) v=some (ys,fr)at h;unfold ES at h;split at h;rename_i t' d;simp only[AXm,AXt]at h;obtain⟨y,h1,rfl,rfl⟩:=h;obtain⟨e,h2⟩:=Dh h1;subst e;simp only at h2;subst h2;have hrx:Dat w F (.slice t) d [u]:=hr;obtain⟨a,cap,e1,e2,e3⟩:=hrx;simp only[AXz,AZv]at e1;refine⟨a,cap,e1,e2,fun hne => ?_,?_⟩;grind;by_cases hne:d=[]
 subst hne;exact⟨[],rfl,fun ad _ j u hu=>by grind⟩;grind;rename_i t' d;simp only[AXm,AXt]at h;obtain⟨y,h1,rfl,rfl⟩:=h;obtain⟨e,h2⟩:=Dh h1;injection e with e;subst e;simp only at h2;subst h2;unfold Rep at hr;obtain⟨a,cap,e1,e2,e3⟩:=hr.1;simp only[AXz,AZv]at e1;refine⟨a,cap,e1,e2,fun hne => ?_,?_⟩;grind;by_cases hne:d=[]
 subst hne;exact⟨[],rfl,fun ad _ j u hu=>by grind⟩;grind;simp only[AXa,AXt]at h;obtain⟨rfl,rfl⟩:=h;unfold Rep at hr;exact⟨none,0,hr,AXl _,fun h=>absurd rfl h,[],rfl,fun ad _ j u hu=>by grind⟩;rename_i id;split at h;rename_i T e xs ho;simp only[AXm,AXt]at h;obtain⟨y,h1,rfl,rfl⟩:=h;obtain⟨e',h2⟩:=Dh h1;injection e' with e';subst e';simp only at h2;subst h2;unfold Rep at hr;rw[ho]at hr;obtain⟨_,hob⟩:=hi.obj id _ ho;cases hm:m id with
  |none=>rw[hm]at hr hob;obtain⟨a,rfl⟩:=hr;simp only at hob;subst hob;exact⟨a,0,rfl,AXl _,fun h=>absurd rfl h,[],rfl,fun ad _ j u hu=>by grind⟩
  |some p=>obtain⟨b,cap⟩:=p;rw[hm]at hr hob;obtain⟨vs,row,e1,e2,e3,e4,e5,e6⟩:=hob;refine⟨_,cap,hr,e2,fun _=>rfl,row,e5,fun ad h j u hu => ?_⟩;cases h;rw[Cs,AYQ,Dw e1];grind
 grind;rename_i id off n;split at h;rename_i T e xs ho;simp only[AXm,AXt]at h;obtain⟨y,h1,rfl,rfl⟩:=h;obtain⟨e',h2⟩:=Dh h1;injection e' with e';subst e';simp only at h2;subst h2;unfold Rep at hr;rw[ho]at hr;obtain⟨hle,hr⟩:=hr;have hcl:(E' off n xs).length=n:=by unfold E';grind
 obtain⟨_,hob⟩:=hi.obj id _ ho;cases hm:m id with
  |none=>
   rw[hm]at hr hob;obtain⟨a,rfl⟩:=hr;simp only at hob;subst hob;have hn:n=0:=by grind
   subst hn;have hd:E' off 0 ([]:List e.den)=[]:=by grind
   exact⟨a,0,by rw[hcl],by omega,fun h=>absurd hd h,[],by rw[hd];rfl,fun ad _ j u hu=>by grind⟩
  |some p=>
   obtain⟨b,cap⟩:=p;rw[hm]at hr hob;obtain⟨vs,row,e1,e2,e3,e4,e5,e6⟩:=hob;obtain⟨a,rfl,ha⟩:=hr;have hk:=fun(x:e.den) cs (h:Dat w F e x cs)=>Dat.length e h;have hrw:=EZ hk n (Hp hk off e5);refine⟨a,cap-off,by rw[hcl],by omega,fun hne => ?_,_,hrw,fun ad h j u hu => ?_⟩;have hn:0<n:=by grind
   grind;have hn:0<n:=by grind
   rw[ha (by omega)]at h;cases h;rw[Cs,Dw e1];grind
 grind;split at h;simp[cast]at h;grind;grind
end
end Go.Pev
end
section
namespace Go.Pev
open Go.RowKit
section
variable {P:Program} {E:Env}
theorem BQ.kill{w:World}{F:Nat→Prop}{m:Mp}{H:List Ob}{fz:List Bool}(hi:HI w F m H fz){j:Nat}(hoj:owned H fz j):BQ w F m H fz w F m (H.set j .dead) fz:=by
 obtain⟨oj,hj,hjf,hjd⟩:=FG hoj;have hlt:=BU hj;have hgj:(H.set j .dead)[j]? = some .dead:=Bj hlt;have hcomp:C5 H (H.set j .dead) m m:=by
  intro i x hix hf;by_cases hij:i=j;grind
  ·rcases C5.refl H m i x hix hf with h|⟨hd,x',h4,h5,_⟩
   all_goals grind
 have hown:∀ i:Ix,owned (H.set j .dead) fz i→owned H fz i:=fun i hoi=>by by_cases hij:i.id=j;obtain⟨o,ho,_,hd⟩:=Dq hoi;grind;exact(DJ (Bi hij)).1 hoi
 refine⟨⟨rfl,rfl,rfl,AXl _,fun _ _ _=>rfl,fun _ h=>h,fun _ h=>.inl h,fun i b c h1 h2=>.inl ⟨i,c,hown i h1,h2⟩,hcomp⟩,⟨?_,?_,?_,?_,?_,?_,hi.lt,hi.glo,by simpa using hi.len⟩⟩;intro id x hix;by_cases hij:id=j;subst hij;rw[hgj]at hix;cases hix;trivial;rw[Bi hij]at hix;exact ObI.mono (fun _ _=>rfl) (fun _ h=>h) hcomp (fun _ _ _ _ _ _=>rfl) (hi.obj id x hix);intro i;by_cases hij:i=j;subst hij;exact Co.plain hgj rfl;exact Co.mono (fun _ _=>rfl) (fun _ h=>h) hcomp (Bi hij) (fun _ _=>rfl) (fun _ _ _ _ _ _ _=>rfl) (hi.row i);intro i T e t xs ver out hio hf x hx ht b c hm;by_cases hij:i=j;grind;rw[Bi hij]at hio;exact hi.rfz i T e t xs ver out hio hf x hx ((DH (by grind)).1 ht) b c hm;exact fun i k b c b' c' h1 h2=>hi.sep i k b c b' c' (hown i h1) (hown k h2);exact fun i b c h1=>hi.off i b c (hown i h1);intro i T t xs b c hio hf hmi;by_cases hij:i=j;grind;rw[Bi hij]at hio;exact hi.froz i T t xs b c hio hf hmi
theorem K9{H:List Ob}{fz:List Bool}{slot j:Nat}{o:Ob}(h:Bc H fz slot=true)(hne:slot≠j):Bc (H.set j o) fz slot=true:=by unfold Bc at *;grind
theorem Cn{w w':World}{ρc:Operand→Value}{o:Oper}{T:TypeId}{s x:Operand}{v n u:Value}(hop:o.op = .call { callee:=.builtin .append,args:=#[s,x],argTypes:=#[T,T] })(e1:ρc s=v)(e2:ρc x=n)
  (hrun:(Builtin.append_ #[T,T] o.type #[v,n]).run P w = .ok u w'):(execOp ρc o).run P w = .ok (.value u) w':=by simp[execOp,hop,resolve,invoke,builtin,e1,e2,hrun]
theorem HF{w:World}{T e ty:TypeId}{i:TypeInfo}(hu:P.underlying T=some (.slice e))(hi:P.info? e=some i)(a:Option Addr){n cap:Nat}(hn:n≤cap)(A:Option Addr)(c:Nat):
  (Builtin.append_ #[T,T] ty #[.slice a n cap,.slice A 0 c]).run P w = .ok (.slice a n cap) w:=by
 have hf:(Builtin.firstCells i.size 0 (.slice A 0 c)).run P w = .ok #[] w:=by
  cases A with
   |none=>simp[Builtin.firstCells]
   |some ad=>simp[Builtin.firstCells,Go.loadCells,loadCellsFrom]
 cases a with
  |none=>simp[Builtin.append_,run_underlying hu,run_sizeOf hi,Builtin.lenOf,hn,hf]
  |some ad=>simp[Builtin.append_,run_underlying hu,run_sizeOf hi,Builtin.lenOf,hn,hf,storeCells]
structure AXX(w:World)(a:Option Addr)(n cap:Nat)(e:TypeId)(sz:Nat)(m:Nat)(old news:List Value)(v:Value)(w':World):Prop where
 os:w'.os=w.os
 tape:w'.tape=w.tape
 output:w'.output=w.output
 size:w.heap.size≤w'.heap.size
 keep:∀ k,k<w.heap.size→(∀ b,a=some ⟨b,0,none⟩→k≠b)→w'.heap[k]? = w.heap[k]?
 res:(m=0∧v = .slice a n cap∧w'=w)∨(∃ g cap' vs,v = .slice (some ⟨g,0,none⟩) (n+m) cap'∧w'.heap[g]? = some (.cells vs e (0,0))∧n+m≤cap'∧cap'≤maxLen∧vs.size=cap'*sz ∧
   vs.toList.take ((n+m)*sz)=old++news∧(w.heap.size≤g∨a=some ⟨g,0,none⟩))
theorem PE{w:World}{T e ty:TypeId}{i:TypeInfo}{z:Value}(hu:P.underlying T=some (.slice e))(hi:P.info? e=some i)(hz:i.zero=some z)(hzs:z.cells.size=i.size)(hsz:0<i.size)
  {b n cap:Nat} {vs:Array Value} (hb:w.heap[b]? = some (.cells vs e (0,0))) (hn:n≤cap) (hmax:cap≤maxLen) (hvs:vs.size=cap*i.size) {A:Option Addr} {m c:Nat} {news:List Value} (hl:news.length=m*i.size)
  (hA:0<m→A.isSome=true) (hnews:∀ ad,A=some ad→∀ j u,news[j]? = some u→w.cell? (ad.add j)=some u) (h1:∀ u∈news,u.oneCell'=true) (hfit:n+m≤4294967296) (hby:i.bytes≤1024) :
  ∃ v w',(Builtin.append_ #[T,T] ty #[.slice (some ⟨b,0,none⟩) n cap,.slice A m c]).run P w = .ok v w'∧AXX w (some ⟨b,0,none⟩) n cap e i.size m (vs.toList.take (n*i.size)) news v w':=by
 have hbytes:(n+m)*i.bytes≤140737488355328:=AYx (AZs hfit hby) (by omega);have hown:w.ownsRow 0 e i.size (.slice (some ⟨b,0,none⟩) n cap) n (vs.toList.take (n*i.size)):=by refine⟨?_,.inr ⟨b,cap,vs,rfl,AZ1 _,hb,hn,hmax,hvs,rfl⟩⟩;simp_all
 cases A with
  |none=>
   have hm:m=0:=by grind
   subst hm;exact⟨_,w,HF hu hi _ hn none c,rfl,rfl,rfl,AXl _,fun _ _ _=>rfl,.inl ⟨rfl,rfl,rfl⟩⟩
  |some ad=>
   obtain⟨v',w',hrun,⟨hl',hres⟩,hg,_,hat⟩:=run_append_own_at (P:=P) w 0 T ty e i z i.size i.bytes hu hi hz rfl rfl hzs hsz _ n _ hown ad m c news hl (hnews ad rfl) h1 (by simp only[maxLen];omega) hbytes (AZ1 _);refine⟨v',w',hrun,hg.os,hg.tape,hg.output,hg.size,fun k hk hne=>hg.block k hk (by simp[Value.ownBlock];grind),.inr ?_⟩;rcases hres with⟨rfl,h0⟩|⟨g,cap',cur,rfl,_,h2,h3,h4,h5,h6⟩
   grind;refine⟨g,cap',cur,rfl,h2,h3,h4,h5,h6,?_⟩;rcases hat with h|h;simp only[Value.ownBlock,AXa]at h;grind;simp only[Value.ownBlock,AXa]at h;omega
theorem Ja{w:World}{T e ty:TypeId}{i:TypeInfo}{z:Value}(hu:P.underlying T=some (.slice e))(hi:P.info? e=some i)(hz:i.zero=some z)(hzs:z.cells.size=i.size)
  (a:Option Addr) {A:Option Addr} {m c:Nat} {news:List Value} (hl:news.length=m*i.size)
  (hA:0<m→A.isSome=true) (hnews:∀ ad,A=some ad→∀ j u,news[j]? = some u→w.cell? (ad.add j)=some u) (hfit:m≤4294967296) (hby:i.bytes≤1024) :
  ∃ v w',(Builtin.append_ #[T,T] ty #[.slice a 0 0,.slice A m c]).run P w = .ok v w'∧w'.os=w.os∧w'.tape=w.tape∧w'.output=w.output∧w.heap.size≤w'.heap.size∧(∀ k,k<w.heap.size→w'.heap[k]? = w.heap[k]?) ∧
   ((m=0∧v = .slice a 0 0)∨(∃ cap' vs,v = .slice (some ⟨w.heap.size,0,none⟩) m cap'∧w'.heap[w.heap.size]? = some (.cells vs e (0,0))∧m≤cap'∧cap'≤maxLen∧vs.size=cap'*i.size∧vs.toList.take (m*i.size)=news)):=by
 rcases AZB m with h0|h0;subst h0;exact⟨_,w,HF hu hi a (AXl _) A c,rfl,rfl,rfl,AXl _,fun _ _=>rfl,.inl ⟨rfl,rfl⟩⟩;obtain⟨ad,rfl⟩:=AYc.1 (hA h0);have hmb:m*i.bytes≤281474976710656:=AYx (AZs hfit hby) (by omega);have hge:=grownCap_ge w m 0 e;have hle:=grownCap_le_maxLen w m 0 e (by simp only[maxLen];omega);have fin:∀ vs:Array Value,vs.toList=news++(Builtin.zeroCells z.cells (grownCap w m 0 e-m)).toList→vs.size=grownCap w m 0 e*i.size∧vs.toList.take (m*i.size)=news:=by intro vs hvs;refine⟨?_,?_⟩;rw[← AX0,hvs,AXn,hl,AX0,size_zeroCells,hzs,← AYr];grind;grind
 cases a with
  |none=>have hr:=run_append_nil (P:=P) w T ty e i z hu hi hz ad m c news hl (hnews ad rfl) h0 (by omega) hmb;obtain⟨f1,f2⟩:=fin (news.toArray++Builtin.zeroCells z.cells (grownCap w m 0 e-m)) (by simp);exact⟨_,_,hr,rfl,rfl,rfl,by simp,fun k hk=>heap_alloc_old w.drew _ k hk,.inr ⟨_,_,rfl,heap_alloc_new w.drew _,hge,hle,f1,f2⟩⟩
  |some b=>
   have hr:=run_append_grow (P:=P) w T ty e i z hu hi hz b 0 0 [] (by simp) (fun j v h=>by simp at h) ad m c news hl (hnews ad rfl) (by omega) (by omega) (by rw[AYQ];have:Builtin.nextslicecap m 0=m:=nextslicecap_zero h0;grind)
   simp only[AYQ]at hr;obtain⟨f1,f2⟩:=fin (([]:List Value).toArray++news.toArray++Builtin.zeroCells z.cells (grownCap w m 0 e-m)) (by simp);exact⟨_,_,hr,rfl,rfl,rfl,by simp,fun k hk=>heap_alloc_old w.drew _ k hk,.inr ⟨_,_,rfl,heap_alloc_new w.drew _,hge,hle,f1,f2⟩⟩
end
end Go.Pev
end
section
namespace Go.Pev
open Go.RowKit
section
variable {P:Program} {E:Env}
theorem kW{H:List Ob}{fz:List Bool}{slot id:Nat}{T:TypeId}{t:Ty}{xs:List t.den}(hf:Bc H fz slot=true)(ho:H[id]? = some (.arr T t xs)):slot≠id:=by rintro rfl;rw[(B9 hf).1]at ho;cases ho
theorem Fm{w:World}{F:Nat→Prop}{m:Mp}{H:List Ob}{fz:List Bool}(hi:HI w F m H fz){slot:Nat}(hf:Bc H fz slot=true){T e ty:TypeId}{t:Ty}{i:TypeInfo}{z:Value}(hu:P.underlying T=some (.slice e))
  (hi0:P.info? e=some i) (hz:i.zero=some z) (hzs:z.cells.size=i.size) (hsz:i.size=t.size) (hpos:0<t.size) (hby:i.bytes≤1024) {ys:List t.den} (hfit:ys.length≤4294967296) (a:Option Addr)
  {A:Option Addr} {c:Nat} {news:List Value} (hA:ys≠[]→A.isSome=true) (hrows:rows (Dat w F t) ys news) (hnews:∀ ad,A=some ad→∀ j u,news[j]? = some u→w.cell? (ad.add j)=some u) :
  ∃ v w' m',(Builtin.append_ #[T,T] ty #[.slice a 0 0,.slice A ys.length c]).run P w = .ok v w'∧BQ w F m H fz w' F m' (H.set slot (.arr e t ys)) fz∧Rep w' F m' (H.set slot (.arr e t ys)) (.own slot) v:=by
 have hk:=fun(x:t.den) cs (h:Dat w F t x cs)=>Dat.length t h;have hl:=Bv hk hrows;obtain⟨v,w',hrun,h1,h2,h3,h4,h5,h6⟩:=Ja (P:=P) (w:=w) (ty:=ty) hu hi0 hz hzs a (A:=A) (m:=ys.length) (c:=c) (news:=news) (by grind) (fun h=>hA (by grind)) hnews hfit hby;rcases h6 with⟨h0,rfl⟩|⟨cap',vs,rfl,q1,q2,q3,q4,q5⟩
 have hy:ys=[]:=AX7 h0;subst hy;have hgw:=BQ.grow hi h1 h2 h3 h4 h5;obtain⟨m',hg,hrep⟩:=EJ hgw.2 hf e hpos a;exact⟨_,w',m',hrun,hgw.trans hg,hrep⟩;obtain⟨m',hg,hrep⟩:=FZ hi hf hpos q1 h1 h2 h3 h4 h5 q2 q3 (by grind) hrows (by grind);grind
theorem uH{w:World}{F:Nat→Prop}{m:Mp}{H:List Ob}{fz:List Bool}(hi:HI w F m H fz){slot:Nat}(hf:Bc H fz slot=true){T e ty:TypeId}{t:Ty}{i:TypeInfo}{z:Value}(hu:P.underlying T=some (.slice e))
  (hi0:P.info? e=some i) (hz:i.zero=some z) (hzs:z.cells.size=i.size) (hsz:i.size=t.size) (hpos:0<t.size) (hby:i.bytes≤1024) {xs ys:List t.den} (hfit:xs.length+ys.length≤4294967296) (hne:ys≠[])
  {s:Value} (hs:Rep w F m H (.clip t xs) s) {A:Option Addr} {c:Nat} {news:List Value} (hA:ys≠[]→A.isSome=true) (hrows:rows (Dat w F t) ys news) (hnews:∀ ad,A=some ad→∀ j u,news[j]? = some u→w.cell? (ad.add j)=some u) :
  ∃ v w' m',(Builtin.append_ #[T,T] ty #[s,.slice A ys.length c]).run P w = .ok v w'∧BQ w F m H fz w' F m' (H.set slot (.arr e t (xs++ys))) fz∧Rep w' F m' (H.set slot (.arr e t (xs++ys))) (.own slot) v:=by
 have hk:=fun(x:t.den) cs (h:Dat w F t x cs)=>Dat.length t h;unfold Rep at hs;obtain⟨⟨a0,cap0,q1,_,q3⟩,a,rfl⟩:=hs;simp only[AXz,Value.slice.injEq,AZv]at q1;obtain⟨rfl, -, -⟩:=q1;by_cases hx:xs=[]
 subst hx;exact Fm hi hf hu hi0 hz hzs hsz hpos hby (by omega) a hA hrows hnews;obtain⟨ad,row,rfl,hF,hr0,hc0⟩:=q3 hx;obtain⟨bd,rfl⟩:=AYc.1 (hA hne);have hl:=Bv hk hrows;have hrl:=Bv hk hr0;have hy0:0<ys.length:=List.length_pos_iff.2 hne;have hbytes:(xs.length+ys.length)*i.bytes≤140737488355328:=AYx (AZs hfit hby) (by omega);have hr:=run_append_grow (P:=P) w T ty e i z hu hi0 hz ad xs.length xs.length row (by grind) hc0 bd ys.length c news (by grind) (hnews bd rfl) (by omega) (by omega) (growslice_fits (by omega) hbytes);have hge:=grownCap_ge w (xs.length+ys.length) xs.length e;have hle:=grownCap_le_maxLen w (xs.length+ys.length) xs.length e (by simp only[maxLen];omega);have hlen:(row++news).length=(xs.length+ys.length)*t.size:=by grind
 obtain⟨m',hg,hrep⟩:=FZ hi hf (w':=w.drew.alloc (.cells (row.toArray++news.toArray++Builtin.zeroCells z.cells (grownCap w (xs.length+ys.length) xs.length e-(xs.length+ys.length))) e)) hpos (xs:=xs++ys) (heap_alloc_new w.drew _) rfl rfl rfl (by simp) (fun b hb=>heap_alloc_old w.drew _ b hb)
  (cap:=grownCap w (xs.length+ys.length) xs.length e) (by grind) hle (by
   rw[Array.size_append,Array.size_append,AYk,AYk,size_zeroCells,hzs,hsz,hrl,hl,← AYr,← AYr];grind) (II hr0 hrows) (by
   grind)
 grind
theorem T4{w:World}{F:Nat→Prop}{m:Mp}{H:List Ob}{fz:List Bool}(hi:HI w F m H fz){slot:Nat}(hf:Bc H fz slot=true){T e ty:TypeId}{t:Ty}{i:TypeInfo}{z:Value}(hu:P.underlying T=some (.slice e))
  (hi0:P.info? e=some i) (hz:i.zero=some z) (hzs:z.cells.size=i.size) (hsz:i.size=t.size) (hpos:0<t.size) (hby:i.bytes≤1024) {id:Nat} {xs:List t.den} (ho:H[id]? = some (.arr e t xs)) (hun:BJ fz id=true)
  {b cap:Nat} (hm:m id=some (b,cap)) {n:Nat} (hn:n≤xs.length) {ys:List t.den} (hfit:n+ys.length≤4294967296)
  {A:Option Addr} {c:Nat} {news:List Value} (hA:ys≠[]→A.isSome=true) (hrows:rows (Dat w F t) ys news) (hnews:∀ ad,A=some ad→∀ j u,news[j]? = some u→w.cell? (ad.add j)=some u) :
  ∃ v w' m',(Builtin.append_ #[T,T] ty #[.slice (some ⟨b,0,none⟩) n cap,.slice A ys.length c]).run P w = .ok v w' ∧
   BQ w F m H fz w' F m' ((H.set id .dead).set slot (.arr e t (xs.take n++ys))) fz∧Rep w' F m' ((H.set id .dead).set slot (.arr e t (xs.take n++ys))) (.own slot) v:=by
 have hk:=fun(x:t.den) cs (h:Dat w F t x cs)=>Dat.length t h;have hl:=Bv hk hrows;obtain⟨_,hob⟩:=hi.obj id _ ho;rw[hm]at hob;obtain⟨vs,row,e1,e2,e3,e4,e5,e6⟩:=hob;have hrl:=Bv hk e5;have hold:vs.toList.take (n*i.size)=row.take (n*t.size):=by rw[← e6,AaE,hsz,AYg (by rw[hrl];exact AYT _ hn)]
 obtain⟨v,w',hrun,hgr⟩:=PE (P:=P) (w:=w) (ty:=ty) hu hi0 hz hzs (by omega) e1 (n:=n) (by omega) e3 (by grind) (A:=A) (m:=ys.length) (c:=c) (news:=news) (by grind) (fun h=>hA (by grind)) hnews
  (fun u hu=>Pj (fun x cs (h:Dat w F t x cs)=>Dat.HY t h) hrows u hu) hfit hby
 rw[hold]at hgr;have hlen:(xs.take n++ys).length=n+ys.length:=by grind
 have hr0:=II (EZ hk n e5) hrows;have hcell:∀ k,F k→w'.heap[k]? = w.heap[k]? := fun k ha=>by
  have h1:k≠b:=by rintro h;exact hi.off id b cap (C3 ho hun) hm (h▸ha)
  exact hgr.keep _ (hi.lt _ ha) (fun b' h=>by grind)
 have hlts:=BU (B9 hf).1;have hgs:((H.set id .dead).set slot (.arr e t (xs.take n++ys)))[slot]? = some (.arr e t (xs.take n++ys)):=Bj (by grind)
 have main:∀ (g cap':Nat) (vs':Array Value),(w.heap.size≤g∨g=b)→w'.heap[g]? = some (.cells vs' e (0,0))→n+ys.length≤cap'→cap'≤maxLen→vs'.size=cap'*t.size→vs'.toList.take ((n+ys.length)*t.size)=row.take (n*t.size)++news →
   ∃ m',BQ w F m H fz w' F m' ((H.set id .dead).set slot (.arr e t (xs.take n++ys))) fz∧Rep w' F m' ((H.set id .dead).set slot (.arr e t (xs.take n++ys))) (.own slot) (.slice (some ⟨g,0,none⟩) (n+ys.length) cap'):=by
  intro g cap' vs' hg q1 q2 q3 q4 q5
  have:=BQ.move (w':=w') hi (C3 ho hun) hm hf (ob:=.arr e t (xs.take n++ys)) trivial (b':=g) (c':=cap') hg.symm hgr.os hgr.tape hgr.output hgr.size (fun k hk hne=>hgr.keep k hk (fun b' h=>by grind))
   (fun _=>⟨hpos,vs',row.take (n*t.size)++news,q1,by omega,q3,q4,B8 (fun x _ cs hx=>hx.mono hcell (fun _ h=>h) t) hr0,by
    grind⟩)
  refine⟨_,this,?_⟩
  unfold Rep
  rw[hgs,BX,← hlen]
  rfl
 rcases hgr.res with⟨h0,rfl,rfl⟩|⟨g,cap',vs',rfl,q1,q2,q3,q4,q5,q6⟩
 have hy:ys=[]:=AX7 h0;subst hy;obtain⟨m',hg,hrep⟩:=main b cap vs (.inr rfl) e1 (by omega) e3 e4 (by simp_all)
 grind;grind
theorem kj{w w':World}{ρc:Operand→Value}{o:Oper}{T T':TypeId}{s x:Operand}{v n u:Value}(hop:o.op = .call { callee:=.builtin .append,args:=#[s,x],argTypes:=#[T,T'] })(e1:ρc s=v)(e2:ρc x=n)
  (hrun:(Builtin.append_ #[T,T'] o.type #[v,n]).run P w = .ok u w'):(execOp ρc o).run P w = .ok (.value u) w':=by simp[execOp,hop,resolve,invoke,builtin,e1,e2,hrun]
theorem uF{w:World}{F:Nat→Prop}{m:Mp}{H:List Ob}{fz:List Bool}(hi:HI w F m H fz){slot:Nat}(hf:Bc H fz slot=true){T T' e ty:TypeId}{t:Ty}{i:TypeInfo}{z:Value}(hu:P.underlying T=some (.slice e))
  (hi0:P.info? e=some i) (hz:i.zero=some z) (hok:Cj (zeroCells t) z.cells.toList=true) (hsz:i.size=t.size) (hpos:0<t.size) (hby:i.bytes≤1024) {kt kx:IntKind} (hk:P.underlying T'=some (.int kt)) {n:Nat} (hfit:n≤4294967296) :
  ∃ v w' m',(Builtin.append_ #[T,T'] ty #[.slice none 0 0,.int kx n]).run P w = .ok v w'∧BQ w F m H fz w' F m' (H.set slot (.arr e t (List.replicate n t.zero))) fz∧Rep w' F m' (H.set slot (.arr e t (List.replicate n t.zero))) (.own slot) v:=by
 have hzd:=CN (w:=w) (F:=F) t _ hok;have hzl:z.cells.size=t.size:=by rw[← AX0];exact Dat.length t hzd
 have hw:IntKind.i64.wrap (n:Int)=n:=IntWalk.i64_in _ (by omega);have hbb:(n:Int)*(i.bytes:Int)≤281474976710656:=by have:n*i.bytes≤4294967296*1024:=AZs hfit hby;omega
 rcases AZB n with h0|h0;subst h0;obtain⟨m',hg,hrep⟩:=EJ (w:=w) hi hf e hpos none;refine⟨.slice none 0 0,w,m',?_,by grind,by grind⟩;have hw0:IntKind.i64.wrap 0=0:=hw;simp[Builtin.append_,run_underlying hu,run_underlying hk,sizeOf,typeInfo,hi0,asInt,asIntOf,hw0];have hge:=grownCap_ge w n 0 e;have hle:=grownCap_le_maxLen w n 0 e (by simp only[maxLen];omega);have hrows:=FP (w:=w) (F:=F) hzd n;have hrl:=Bv (fun x cs (h:Dat w F t x cs)=>Dat.length t h) hrows;rw[AYv]at hrl;have hcells:∀ k,(Builtin.zeroCells z.cells k).toList=(List.replicate k z.cells.toList).flatten:=Db z.cells;have hrun:(Builtin.append_ #[T,T'] ty #[.slice none 0 0,.int kx n]).run P w = .ok (.slice (some ⟨w.heap.size,0,none⟩) n (grownCap w n 0 e)) (w.drew.alloc (.cells (Builtin.zeroCells z.cells n++Builtin.zeroCells z.cells (grownCap w n 0 e-n)) e)):=by
  have hn:n≠0:=by omega
  have hn2:¬ ((n:Int)<0):=by omega
  have hn3:¬ (281474976710656<(n:Int)*(i.bytes:Int)):=by omega
  have h63':¬ (9223372036854775807<(n:Int)):=by omega
  have h48':¬ (281474976710656<Builtin.nextslicecap n 0*i.bytes):=by rw[nextslicecap_zero h0];omega
  have hsz0:¬ (i.size=0):=by omega
  simp[Builtin.append_,run_underlying hu,run_underlying hk,sizeOf,typeInfo,zeroValue,hi0,hz,asInt,asIntOf,hw,hn,hn2,hn3,h63',h48',Question.forced,run_firstCells_none,newRow,grownCap];grind
 obtain⟨m',hg,hrep⟩:=FZ hi hf (w':=w.drew.alloc (.cells (Builtin.zeroCells z.cells n++Builtin.zeroCells z.cells (grownCap w n 0 e-n)) e)) hpos (xs:=List.replicate n t.zero) (heap_alloc_new w.drew _) rfl rfl rfl (by simp) (fun b hb=>heap_alloc_old w.drew _ b hb)
  (cap:=grownCap w n 0 e) (by grind) hle (by
   rw[Array.size_append,size_zeroCells,size_zeroCells,hzl,← AYr];grind) hrows (by
   grind)
 grind
end
end Go.Pev
end
section
namespace Go.Pev
open Go.RowKit
section
variable {P:Program}
theorem Nw{H:List Ob}{fz:List Bool}{ids:List Nat}{i:Ix}(h:owned H (BI ids fz) i):owned H fz i:=by
 cases i with
  |r i k=>simp only[owned]at *;split at h;rw[Bh]at h;grind;omega
  |o i=>
   simp only[owned,Cd]at *;cases ho:H[i]? with
    |none=>grind
    |some o=>
     rw[ho]at h;cases o with
      |free=>omega
      |dead=>omega
      |box cs=>trivial
      |map k v es=>trivial
      |prs T t is=>trivial
      |rows T e t xs ver out=>simp only at h ⊢;rw[Bh]at h;grind
      |arr T t xs=>simp only at h ⊢;rw[Bh]at h;grind
theorem eR{w w':World}{F:Nat→Prop}{m:Mp}{H:List Ob}{fz:List Bool}(hi:HI w F m H fz){id:Nat}{e:TypeId}{t:Ty}{xs:List t.den}(ho:H[id]? = some (.arr e t xs))(hun:BJ fz id=true)
  (os:w'.os=w.os) (tape:w'.tape=w.tape) (output:w'.output=w.output) (size:w.heap.size≤w'.heap.size) (G:Nat→Prop)
  (hG:∀ k,G k→k<w'.heap.size∧((∃ c,m id=some (k,c))∨w.heap.size≤k)) (hb:∀ b c,m id=some (b,c)→G b)
  (hkeep:∀ k,k<w.heap.size→(∀ c,m id≠some (k,c))→w'.heap[k]? = w.heap[k]?)
  (hob:ObI w' (fun k=>F k∨G k) m H (.arr e t xs) (m id)):BQ w F m H fz w' (fun k=>F k∨G k) m H (BI [id] fz):=by
 have hid:=C3 ho hun;have hown:∀ i:Ix,owned H (BI [id] fz) i→owned H fz i∧i≠.o id:=by
  intro i h;refine⟨Nw h,?_⟩;rintro rfl;simp only[owned,Cd]at h;rw[ho]at h;simp only at h;rw[Bh]at h;have hl:id<fz.length:=by rw[← hi.len];grind
  grind
 have hcell:∀ k,F k→w'.heap[k]? = w.heap[k]? := fun k ha=>hkeep _ (hi.lt _ ha) (fun c hc=>hi.off id _ c hid hc ha);refine⟨⟨os,tape,output,size,fun b hb' hne=>hkeep b hb' (fun c hc=>hne id c hid hc),fun _ h=>.inl h,?_,fun i b c h1 h2=>.inl ⟨i,c,(hown i h1).1,h2⟩,C5.refl H m⟩,⟨?_,?_,?_,?_,?_,?_,?_,hi.glo.mono hcell (fun _ h=>.inl h),by rw[Dn];exact hi.len⟩⟩;grind;intro j o hj;by_cases hji:j=id;grind;exact ObI.mono hcell (fun _ h=>.inl h) (C5.refl H m) (fun hf hd b c hl hlt=>hkeep b hlt (fun c' hc'=>hi.ne hid hc' hj hf hd hl hji rfl)) (hi.obj j o hj);intro i;by_cases hne:i=id;subst hne;exact Co.plain ho rfl;exact Co.mono hcell (fun _ h=>.inl h) (C5.refl H m) rfl (fun _ _=>rfl) (fun x hx hox b c hl hlt=>hkeep b hlt (fun c' hc'=>hi.neX hid hc' hox hl (by rintro rfl;exact hne hx.symm) rfl)) (hi.row i);intro i T' e' t' xs' ver out hio hf x hx ht b c hm;have hne:i≠id:=by grind
 rw[Bh]at hf;simp only[AYe,AXd,AXc,AYB]at hf;rcases hf with hf|⟨hf,_⟩
 exact .inl (hi.rfz i T' e' t' xs' ver out hio hf x hx ht b c hm);omega;exact fun i j b c b' c' h1 h2=>hi.sep i j b c b' c' (hown i h1).1 (hown j h2).1;rintro i b c h1 h2 (hF|hg);exact hi.off i b c (hown i h1).1 h2 hF;rcases(hG b hg).2 with⟨c',hc'⟩|h;exact hi.sep i id b c b c' (hown i h1).1 hid (hown i h1).2 h2 hc' rfl;have:=hi.IT (hown i h1).1 h2;omega;intro i T t' xs' b c hio hf hmi;by_cases hii:i=id;grind;refine .inl (hi.froz i T t' xs' b c hio ?_ hmi);rw[Bh]at hf;grind;rintro b (h|h);exact AYl (hi.lt b h) size;grind
theorem AQL{w':World}{F':Nat→Prop}{m:Mp}{H:List Ob}{g cap:Nat}{vs:Array Value}{e:TypeId}{t:Ty}{zs:List t.den}{row:List Value}(hg:w'.heap[g]? = some (.cells vs e (0,0)))(ht:vs.toList.take row.length=row)
  (hrows:rows (Dat w' F' t) zs row) (hle:zs.length≤cap) (hF:F' g) {n:Nat} (hn:n=zs.length):Rep w' F' m H (.data (.slice t) zs) (.slice (some ⟨g,0,none⟩) n cap):=by
 subst hn;unfold Rep;show Dat w' F' (.slice t) zs [_];refine⟨some ⟨g,0,none⟩,cap,rfl,hle,fun _=>⟨⟨g,0,none⟩,row,rfl,hF,hrows,fun j u hj => ?_⟩⟩;rw[Addr.add_lit,AYQ];have hj':vs.toList[j]? = some u:=by grind
 rw[AYY]at hj';simp[World.cell?,hg,hj']
theorem uG{w:World}{F:Nat→Prop}{m:Mp}{H:List Ob}{fz:List Bool}(hi:HI w F m H fz){T e ty:TypeId}{t:Ty}{i:TypeInfo}{z:Value}(hu:P.underlying T=some (.slice e))
  (hi0:P.info? e=some i) (hz:i.zero=some z) (hzs:z.cells.size=i.size) (hsz:i.size=t.size) (hpos:0<t.size) (hby:i.bytes≤1024) {id:Nat} {xs:List t.den} (ho:H[id]? = some (.arr e t xs)) (hun:BJ fz id=true)
  {ys:List t.den} (hfit:xs.length+ys.length≤4294967296)
  {A:Option Addr} {c:Nat} {news:List Value} (hA:ys≠[]→A.isSome=true) (hrows:rows (Dat w F t) ys news) (hnews:∀ ad,A=some ad→∀ j u,news[j]? = some u→w.cell? (ad.add j)=some u)
  {s:Value} (hs:Rep w F m H (.own id) s) :
  ∃ v w' F',(Builtin.append_ #[T,T] ty #[s,.slice A ys.length c]).run P w = .ok v w'∧BQ w F m H fz w' F' m H (BI [id] fz)∧Rep w' F' m H (.data (.slice t) (xs++ys)) v:=by
 have hk:=fun(x:t.den) cs (h:Dat w F t x cs)=>Dat.length t h;have hl:=Bv hk hrows;have hid:=C3 ho hun;unfold Rep at hs;rw[ho]at hs;have hob:=hi.obj id _ ho;obtain⟨_,hob'⟩:=hob;cases hm:m id with
  |none=>
   rw[hm]at hs hob';obtain⟨a,rfl⟩:=hs;simp only at hob';subst hob';obtain⟨v,w',hrun,h1,h2,h3,h4,h5,h6⟩:=Ja (P:=P) (w:=w) (ty:=ty) hu hi0 hz hzs a (A:=A) (m:=ys.length) (c:=c) (news:=news) (by grind) (fun h=>hA (by grind)) hnews (by omega) hby;have hg:=eR (w':=w') hi ho hun h1 h2 h3 h4 (fun k=>k=w.heap.size∧k<w'.heap.size) (fun k hk=>⟨hk.2,.inr (AZb hk.1.symm)⟩) (fun b c h=>by grind) (fun k hk _=>h5 k hk) (by rw[hm];exact⟨hpos,rfl⟩)
   refine⟨v,w',_,hrun,hg,?_⟩;rw[AX2];rcases h6 with⟨h0,rfl⟩|⟨cap',vs,rfl,q1,q2,q3,q4,q5⟩
   have hy:ys=[]:=AX7 h0;subst hy;unfold Rep;exact⟨a,0,rfl,AXl _,fun h=>absurd rfl h⟩;have hcell:∀ k,F k→w'.heap[k]? = w.heap[k]? := fun k ha=>h5 _ (hi.lt _ ha);exact AQL q1 (by grind) (B8 (fun x _ cs hx=>hx.mono hcell (fun _ h=>.inl h) t) hrows) q2 (.inr ⟨rfl,CG q1⟩) rfl
  |some p=>
   obtain⟨b,cap⟩:=p;rw[hm]at hs hob';simp only[Bq]at hs;obtain⟨vs,row,e1,e2,e3,e4,e5,e6⟩:=hob';subst hs;have hrl:=Bv hk e5;have hblt:b<w.heap.size:=CG e1;have hG:∀ (w':World),w.heap.size≤w'.heap.size→∀ k,(k=b∨(k=w.heap.size∧k<w'.heap.size))→k<w'.heap.size∧((∃ c,m id=some (k,c))∨w.heap.size≤k):=by grind
   have main:∀ (w':World) (vs0:Array Value),w'.os=w.os→w'.tape=w.tape→w'.output=w.output→w.heap.size≤w'.heap.size→(∀ k,k<w.heap.size→k≠b→w'.heap[k]? = w.heap[k]?)→w'.heap[b]? = some (.cells vs0 e (0,0))→vs0.size=cap*t.size→vs0.toList.take row.length=row →
     (∀ k,F k→w'.heap[k]? = w.heap[k]?)∧BQ w F m H fz w' (fun k=>F k∨(k=b∨(k=w.heap.size∧k<w'.heap.size))) m H (BI [id] fz):=by
    intro w' vs0 h1 h2 h3 h4 h5 h6 h7 h8
    have hcell:∀ k,F k→w'.heap[k]? = w.heap[k]? := fun k ha=>h5 _ (hi.lt _ ha) (by rintro h;exact hi.off id b cap hid hm (h▸ha))
    refine⟨hcell,eR hi ho hun h1 h2 h3 h4 _ (hG w' h4) (fun b' c' h=>by grind) (fun k hk hne=>h5 k hk (by grind)) ?_⟩
    rw[hm]
    exact⟨hpos,vs0,row,h6,e2,e3,h7,B8 (fun x _ cs hx=>hx.mono hcell (fun _ h=>.inl h) t) e5,h8⟩
   have hrr:=II e5 hrows;have hlen:(row++news).length=(xs.length+ys.length)*t.size:=by grind
   have fin:∀ (w':World) (g cap':Nat) (vs':Array Value),(∀ k,F k→w'.heap[k]? = w.heap[k]?)→(g=b∨(g=w.heap.size∧g<w'.heap.size))→w'.heap[g]? = some (.cells vs' e (0,0))→xs.length+ys.length≤cap'→vs'.toList.take (row++news).length=row++news →
     Rep w' (fun k=>F k∨(k=b∨(k=w.heap.size∧k<w'.heap.size))) m H (.data (.slice t) (xs++ys)) (.slice (some ⟨g,0,none⟩) (xs.length+ys.length) cap'):=by
    intro w' g cap' vs' hcell hg hgv hle htk
    exact AQL hgv htk (B8 (fun x _ cs hx=>hx.mono hcell (fun _ h=>.inl h) t) hrr) (by grind) (.inr hg) (by simp)
   cases A with
    |none=>
     have hy:ys=[]:=by grind
     subst hy;obtain⟨hc,hgo⟩:=main w vs rfl rfl rfl (AXl _) (fun _ _ _=>rfl) e1 e4 e6;have hn0:news=[]:=AX7 (by grind);subst hn0;exact⟨_,w,_,HF hu hi0 _ e2 none c,hgo,fin w b cap vs hc (.inl rfl) e1 (by omega) (by grind)⟩
    |some ad=>
     have hone:∀ u∈news,u.oneCell'=true:=fun u hu=>Pj (fun x cs (h:Dat w F t x cs)=>Dat.HY t h) hrows u hu;by_cases hroom:xs.length+ys.length≤cap;have hnl:news.length=ys.length*i.size:=by grind
     have hsum:xs.length*i.size+news.length≤vs.size:=by rw[hnl,e4,hsz,← AYr];exact AYT _ hroom
     have hr:=run_append_room (P:=P) w T ty e i hu hi0 b xs.length cap vs e1 ad ys.length c news hnl (hnews ad rfl) hone hroom hsum;have hrow:vs.toList.take (xs.length*i.size)=row:=by grind
     rw[hrow]at hr;obtain⟨hc,hgo⟩:=main (w.setRow b (row++news++vs.toList.drop (xs.length*i.size+news.length)).toArray) (row++news++vs.toList.drop (xs.length*i.size+news.length)).toArray rfl rfl rfl (by simp) (fun k _ hk=>setRow_other w b k _ hk) (setRow_heap w b vs (row++news++vs.toList.drop (xs.length*i.size+news.length)).toArray e _ e1) (by grind) (by simp)
     exact⟨_,_,_,hr,hgo,fin _ b cap _ hc (.inl rfl) (setRow_heap w b vs _ e _ e1) hroom (by grind)⟩;have hbytes:(xs.length+ys.length)*i.bytes≤140737488355328:=AYx (AZs hfit hby) (by omega);have holds:∀ j u,row[j]? = some u→w.cell? ((⟨b,0,none⟩:Addr).add j)=some u:=fun j u hj=>by
      rw[Addr.add_lit,AYQ];have hj':vs.toList[j]? = some u:=by grind
      rw[AYY]at hj';simp[World.cell?,e1,hj']
     have hr:=run_append_grow (P:=P) w T ty e i z hu hi0 hz ⟨b,0,none⟩ xs.length cap row (by grind) holds ad ys.length c news (by grind) (hnews ad rfl) (by omega) (by omega) (growslice_fits (by omega) hbytes);obtain⟨hc,hgo⟩:=main (w.drew.alloc (.cells (row.toArray++news.toArray++Builtin.zeroCells z.cells (grownCap w (xs.length+ys.length) cap e-(xs.length+ys.length))) e)) vs rfl rfl rfl (by simp) (fun k hk _=>heap_alloc_old w.drew _ k hk) ((heap_alloc_old w.drew _ b hblt).trans e1) e4 e6;have hge:=grownCap_ge w (xs.length+ys.length) cap e;exact⟨_,_,_,hr,hgo,fin _ w.heap.size _ _ hc (.inr ⟨rfl,CG (heap_alloc_new w.drew _)⟩) (heap_alloc_new w.drew _) hge (by grind)⟩
end
end Go.Pev
end
section
namespace Go.Pev
open Go.RowKit
section
variable {P:Program}
theorem AU1{w:World}{F:Nat→Prop}{m:Mp}{H:List Ob}{fz:List Bool}(hi:HI w F m H fz){id:Nat}{T:TypeId}{tgt:Nat}{is:List Int}(ho:H[id]? = some (.prs T tgt is)){v:Value}(hv:Rep w F m H (.own id) v):
  ∃ A c,v = .slice A is.length c∧(is≠[]→A.isSome=true)∧∃ us,BD w F m H (GD tgt is) us∧(∀ u∈us,u.oneCell'=true)∧∀ ad,A=some ad→∀ j u,us[j]? = some u→w.cell? (ad.add j)=some u:=by
 have hob:=hi.obj id _ ho;unfold Rep at hv;rw[ho]at hv;cases hm:m id with
  |none=>rw[hm]at hv hob;obtain⟨a,rfl⟩:=hv;have hob:is=[]:=hob;subst hob;exact⟨a,0,rfl,fun h=>absurd rfl h,[],by show BD w F m H [] [];unfold BD;rfl,(by simp),fun _ _ j u h=>by simp at h⟩
  |some p=>obtain⟨b,cap⟩:=p;rw[hm]at hv hob;simp only[Bq]at hv;obtain⟨vs,us,e1,e2,e3,e4,e5,e6,e7⟩:=hob;refine⟨some ⟨b,0,none⟩,cap,hv,fun _=>rfl,us,e5,e6,fun ad h j u hu => ?_⟩;cases h;rw[Cs,Dw e1];grind
theorem KQ{w:World}{F:Nat→Prop}{m:Mp}{H:List Ob}{fz:List Bool}(hi:HI w F m H fz){slot:Nat}(hf:Bc H fz slot=true){T e ty:TypeId}{i:TypeInfo}{z:Value}(hu:P.underlying T=some (.slice e))
  (hi0:P.info? e=some i) (hz:i.zero=some z) (hzs:z.cells.size=1) (hsz:i.size=1) (hby:i.bytes≤1024) {tgt:Nat} {ys:List Int} (hfit:ys.length≤4294967296) (a:Option Addr)
  {A:Option Addr} {c:Nat} {news:List Value} (hA:ys≠[]→A.isSome=true) (hr:BD w F m H (GD tgt ys) news) (hone:∀ u∈news,u.oneCell'=true) (hnews:∀ ad,A=some ad→∀ j u,news[j]? = some u→w.cell? (ad.add j)=some u) :
  ∃ v w' m',(Builtin.append_ #[T,T] ty #[.slice a 0 0,.slice A ys.length c]).run P w = .ok v w'∧BQ w F m H fz w' F m' (H.set slot (.prs e tgt ys)) fz∧Rep w' F m' (H.set slot (.prs e tgt ys)) (.own slot) v:=by
 have hl:news.length=ys.length:=by rw[Ba hr,XT]
 obtain⟨v,w',hrun,h1,h2,h3,h4,h5,h6⟩:=Ja (P:=P) (w:=w) (ty:=ty) hu hi0 hz (by omega) a (A:=A) (m:=ys.length) (c:=c) (news:=news) (by grind) (fun h=>hA (by grind)) hnews hfit hby;rcases h6 with⟨h0,rfl⟩|⟨cap',vs,rfl,q1,q2,q3,q4,q5⟩
 have hy:ys=[]:=AX7 h0;subst hy;have hgw:=BQ.grow hi h1 h2 h3 h4 h5;obtain⟨m',hg,hrep⟩:=bE hgw.2 hf e tgt a;exact⟨_,w',m',hrun,hgw.trans hg,hrep⟩;obtain⟨m',hg,hrep⟩:=Qj hi hf q1 h1 h2 h3 h4 h5 q2 q3 (by grind) hr hone (by grind);grind
theorem VV{w:World}{F:Nat→Prop}{m:Mp}{H:List Ob}{fz:List Bool}(hi:HI w F m H fz){slot:Nat}(hf:Bc H fz slot=true){T e ty:TypeId}{i:TypeInfo}{z:Value}(hu:P.underlying T=some (.slice e))
  (hi0:P.info? e=some i) (hz:i.zero=some z) (hzs:z.cells.size=1) (hsz:i.size=1) (hby:i.bytes≤1024) {tgt id:Nat} {xs:List Int} (ho:H[id]? = some (.prs e tgt xs))
  {b cap:Nat} (hm:m id=some (b,cap)) {ys:List Int} (hfit:xs.length+ys.length≤4294967296)
  {A:Option Addr} {c:Nat} {news:List Value} (hA:ys≠[]→A.isSome=true) (hr:BD w F m H (GD tgt ys) news) (hone:∀ u∈news,u.oneCell'=true) (hnews:∀ ad,A=some ad→∀ j u,news[j]? = some u→w.cell? (ad.add j)=some u) :
  ∃ v w' m',(Builtin.append_ #[T,T] ty #[.slice (some ⟨b,0,none⟩) xs.length cap,.slice A ys.length c]).run P w = .ok v w' ∧
   BQ w F m H fz w' F m' ((H.set id .dead).set slot (.prs e tgt (xs++ys))) fz∧Rep w' F m' ((H.set id .dead).set slot (.prs e tgt (xs++ys))) (.own slot) v:=by
 have hl:news.length=ys.length:=by rw[Ba hr,XT]
 have hob:=hi.obj id _ ho;rw[hm]at hob;obtain⟨vs,us,e1,e2,e3,e4,e5,e6,e7⟩:=hob;have hul:us.length=xs.length:=by rw[Ba e5,XT]
 have hold:vs.toList.take (xs.length*i.size)=us:=by grind
 obtain⟨v,w',hrun,hgr⟩:=PE (P:=P) (w:=w) (ty:=ty) hu hi0 hz (by omega) (by omega) e1 (n:=xs.length) e2 e3 (by grind) (A:=A) (m:=ys.length) (c:=c) (news:=news) (by grind) (fun h=>hA (by grind)) hnews
  hone hfit hby
 rw[hold]at hgr;have hlen:(xs++ys).length=xs.length+ys.length:=AXn ..;have hr0:BD w F m H (GD tgt (xs++ys)) (us++news):=by rw[ANJ];exact G8 e5 hr
 have hone0:∀ u∈us++news,u.oneCell'=true:=fun u hu=>by grind
 have hlts:=BU (B9 hf).1;have hgs:((H.set id .dead).set slot (.prs e tgt (xs++ys)))[slot]? = some (.prs e tgt (xs++ys)):=Bj (by grind);have hnl:(us++news).length=xs.length+ys.length:=by grind
 have main:∀ (g cap':Nat) (vs':Array Value),(w.heap.size≤g∨g=b)→w'.heap[g]? = some (.cells vs' e (0,0))→xs.length+ys.length≤cap'→cap'≤maxLen→vs'.size=cap'→vs'.toList.take (xs.length+ys.length)=us++news →
   ∃ m',BQ w F m H fz w' F m' ((H.set id .dead).set slot (.prs e tgt (xs++ys))) fz∧Rep w' F m' ((H.set id .dead).set slot (.prs e tgt (xs++ys))) (.own slot) (.slice (some ⟨g,0,none⟩) (xs.length+ys.length) cap'):=by
  intro g cap' vs' hg q1 q2 q3 q4 q5
  have:=BQ.move (w':=w') hi (dh ho) hm hf (ob:=.prs e tgt (xs++ys)) trivial (b':=g) (c':=cap') hg.symm hgr.os hgr.tape hgr.output hgr.size (fun k hk hne=>hgr.keep k hk (fun b' h=>by grind))
   (fun hmono=>⟨vs',us++news,q1,by omega,q3,q4,uQ hmono hr0,hone0,by grind⟩)
  refine⟨_,this,?_⟩
  unfold Rep
  rw[hgs,BX,← hlen]
  rfl
 rcases hgr.res with⟨h0,rfl,rfl⟩|⟨g,cap',vs',rfl,q1,q2,q3,q4,q5,q6⟩
 grind;obtain⟨m',hg,hrep⟩:=main g cap' vs' (by grind) q1 q2 q3 (by grind) (by grind);grind
end
end Go.Pev
end
section
namespace Go.Pev
open Go.RowKit
section
variable {P:Program}
theorem ABo{w:World}{F:Nat→Prop}{m:Mp}{H:List Ob}{fz:List Bool}(hi:HI w F m H fz){T e ty:TypeId}{t:Ty}{i:TypeInfo}{z:Value}(hu:P.underlying T=some (.slice e))
  (hi0:P.info? e=some i) (hz:i.zero=some z) (hzs:z.cells.size=i.size) (hsz:i.size=t.size) (hpos:0<t.size) (hby:i.bytes≤1024) {id k ver:Nat} {T0:RK} {xs:List (List t.den)} (ho:H[id]? = some (.rows T0 e t xs ver none)) (hun:fz.getD id false=false)
  {v:Value} (hv:Rep w F m H (.rowp id k ver) v) {ys:List t.den} (hfit:(A7 xs k []).length+ys.length≤4294967296)
  {A:Option Addr} {c:Nat} {news:List Value} (hA:ys≠[]→A.isSome=true) (hrows:rows (Dat w F t) ys news) (hnews:∀ ad,A=some ad→∀ j u,news[j]? = some u→w.cell? (ad.add j)=some u) :
  ∃ v' w' m',(Builtin.append_ #[T,T] ty #[v,.slice A ys.length c]).run P w = .ok v' w'∧BQ w F m H fz w' F m' (H.set id (.rows T0 e t (T0.put xs k (BT (A7 xs k []) ys)) (ver+1) (some k))) fz ∧
   Rep w' F m' (H.set id (.rows T0 e t (T0.put xs k (BT (A7 xs k []) ys)) (ver+1) (some k))) (.rowp id k (ver+1)) v':=by
 have hk:=fun(x:t.den) cs (h:Dat w F t x cs)=>Dat.length t h
 have hl:=Bv hk hrows
 unfold Rep at hv
 rw[ho]at hv
 obtain⟨_,_,h7⟩:=hv
 obtain⟨zs,l0,hzz,hnx,hrep,hob,hl0,hle⟩:∃ (zs:List t.den) (l0:Option (Nat×Nat)),A7 xs k []=zs∧(xs[k]? = some zs∨(T0.JJ=false∧k=xs.length))∧Bq (some (.arr 0 t zs)) l0 v∧ObI w F m H (.arr e t zs) l0 ∧
   (∀ b c,l0=some (b,c)→owned H fz (.r id k)∧m (.r id k)=some (b,c))∧k≤xs.length:=by
  rcases h7 rfl with⟨zs,h1,h2⟩|⟨h0,h1,h2⟩
  ·exact⟨zs,m (.r id k),by unfold A7;grind,.inl h1,h2,(hi.row id T0 e t xs ver none ho k zs h1).1,fun b c h=>⟨R6 ho hun (Hv h1),h⟩,AYw (Hv h1)⟩
  ·refine⟨[],none,?_,.inr ⟨h0,h1⟩,⟨_,h2⟩,⟨hpos,rfl⟩,(fun b c h=>by cases h),AZb h1⟩
   unfold A7
   grind
 rw[hzz]at hfit ⊢
 have hput:∀ y:List t.den,(T0.put xs k y)[k]? = some y∧(∀ k',k'≠k→(T0.put xs k y)[k']? = xs[k']?)∧(T0.JJ=true→xs.length=(T0.put xs k y).length)∧(xs.length=(T0.put xs k y).length∨(T0.JJ=false∧k=xs.length∧(T0.put xs k y).length=xs.length+1)):=by
  intro y
  have hlt:k<xs.length→((xs.set k y)[k]? = some y∧(∀ k',k'≠k→(xs.set k y)[k']? = xs[k']?)∧(T0.JJ=true→xs.length=(xs.set k y).length)∧(xs.length=(xs.set k y).length∨(T0.JJ=false∧k=xs.length∧(xs.set k y).length=xs.length+1))):=fun h=>
   ⟨List.getElem?_set_self h,fun k' hk'=>AYo (AYm hk'),fun _=>List.length_set.symm,.inl List.length_set.symm⟩
  cases T0 with
  |arr T=>exact hlt (by rcases hnx with h|⟨h,_⟩;exact Hv h;cases h)
  |map j ks=>
   simp only[RK.put,VJ]
   grind
 have fin:∀ (w':World) (l:Option (Nat×Nat)) (v':Value),(∀ b c,l=some (b,c)→(∃ c0,l0=some (b,c0))∨w.heap.size≤b)→w'.os=w.os→w'.tape=w.tape→w'.output=w.output→w.heap.size≤w'.heap.size →
   (∀ b,b<w.heap.size→(∀ c,l0≠some (b,c))→w'.heap[b]? = w.heap[b]?)→((∀ {d:t.den} {cs:List Value},Dat w F t d cs→Dat w' F t d cs)→ObI w' F m H (.arr e t (zs++ys)) l)→Bq (some (.arr e t (zs++ys))) l v' →
   ∃ m',BQ w F m H fz w' F m' (H.set id (.rows T0 e t (T0.put xs k (BT zs ys)) (ver+1) (some k))) fz∧Rep w' F m' (H.set id (.rows T0 e t (T0.put xs k (BT zs ys)) (ver+1) (some k))) (.rowp id k (ver+1)) v':=by
  intro w' l v' hl' h1 h2 h3 h4 h5 h6 h8
  obtain⟨p1,p2,p3,p4⟩:=hput (BT zs ys)
  have hg:=BQ.AWl hi ho hun l p1 p2 p3 (fun b cap _ h=>by
    rcases p4 with p4|⟨p4,p5,p6⟩
    ·rw[← p4];exact h.out (by grind)
    ·cases T0 with
     |arr T=>cases p4
     |map j ks=>
      obtain⟨ms,clock,e1,e2,e3,e4,_⟩:=h
      have e4:=e4.resolve_right fun h=>by cases h.1
      exact⟨ms,clock,e1,e2,e3,.inr ⟨by grind,by omega⟩,fun k' h=>by grind⟩)
   (fun ha hx=>AX7 (by grind))
   (fun b c h=>(hl' b c h).imp (fun ⟨c0,h⟩=>⟨c0,hl0 b c0 h⟩) (fun h=>h)) h1 h2 h3 h4 (fun b hb hn=>h5 b hb fun c hc=>(hn c (hl0 b c hc).1 (hl0 b c hc).2)) h6
  refine⟨_,hg,?_⟩
  unfold Rep
  rw[Bj (BU ho),Hk]
  exact⟨h8.one,AXl _,fun _=>.inl ⟨zs++ys,p1,h8⟩⟩
 cases hm:l0 with
 |none=>
  rw[hm]at hob hrep
  obtain⟨a,rfl⟩:=hrep
  obtain⟨_,hzn⟩:=hob
  simp only at hzn
  subst hzn
  obtain⟨v',w',hrun,h1,h2,h3,h4,h5,h6⟩:=Ja (P:=P) (w:=w) (ty:=ty) hu hi0 hz hzs a (A:=A) (m:=ys.length) (c:=c) (news:=news) (by grind) (fun h=>hA (by grind)) hnews (by omega) hby
  rcases h6 with⟨h0,rfl⟩|⟨cap',vs,rfl,q1,q2,q3,q4,q5⟩
  ·have hy:ys=[]:=AX7 h0
   subst hy
   obtain⟨m',hg,hr⟩:=fin w' none _ (fun b c h=>by cases h) h1 h2 h3 h4 (fun b hb _=>h5 b hb) (fun _=>⟨hpos,rfl⟩) ⟨a,rfl⟩
   grind
  ·obtain⟨m',hg,hr⟩:=fin w' (some (w.heap.size,cap')) _ (fun b c h=>by grind) h1 h2 h3 h4 (fun b hb _=>h5 b hb)
    (fun hd=>⟨hpos,vs,news,q1,q2,q3,by grind,B8 (fun x _ cs hx=>hd hx) hrows,by grind⟩) rfl
   grind
 |some p=>
  obtain⟨b,cap⟩:=p
  rw[hm]at hob hrep
  obtain⟨_,vs,row,e1,e2,e3,e4,e5,e6⟩:=hob
  simp only[Bq]at hrep
  subst hrep
  have hrl:=Bv hk e5
  obtain⟨v',w',hrun,hgr⟩:=PE (P:=P) (w:=w) (ty:=ty) hu hi0 hz hzs (by omega) e1 (n:=zs.length) e2 e3 (by grind) (A:=A) (m:=ys.length) (c:=c) (news:=news) (by grind) (fun h=>hA (by grind)) hnews
   (fun u hu=>Pj (fun x cs (h:Dat w F t x cs)=>Dat.HY t h) hrows u hu) hfit hby
  have hold:vs.toList.take (zs.length*i.size)=row:=by grind
  rw[hold]at hgr
  have hr0:=II e5 hrows
  have hlen:(row++news).length=(zs.length+ys.length)*t.size:=by grind
  have hkeep:∀ b',b'<w.heap.size→(∀ c,l0≠some (b',c))→w'.heap[b']? = w.heap[b']? := fun b' hb' hn=>hgr.keep b' hb' fun b0 h=>by
   grind
  rcases hgr.res with⟨h0,rfl,rfl⟩|⟨g,cap',vs',rfl,q1,q2,q3,q4,q5,q6⟩
  ·have hy:ys=[]:=AX7 h0
   subst hy
   obtain⟨m',hg,hr⟩:=fin w' (some (b,cap)) _ (fun b c h=>by grind) hgr.os hgr.tape hgr.output hgr.size hkeep
    (fun _=>⟨hpos,vs,row,e1,by grind,e3,e4,by grind,e6⟩) (by rw[AYf];rfl)
   grind
  ·obtain⟨m',hg,hr⟩:=fin w' (some (g,cap')) (.slice (some ⟨g,0,none⟩) (zs.length+ys.length) cap') (fun b' c h=>by
     grind) hgr.os hgr.tape hgr.output hgr.size hkeep
    (fun hd=>⟨hpos,vs',row++news,q1,by grind,q3,by grind,B8 (fun x _ cs hx=>hd hx) hr0,by grind⟩) (by simp only[Bq,AXn])
   grind
end
end Go.Pev
end
section
namespace Go.Pev
open Go.RowKit
section
variable {P:Program} {E:Env}
theorem lT(args:Array Operand)(ts:Array TypeId):Claim P E (.call { callee:=.builtin .append,args:=args,argTypes:=ts }):=by
 intro R ty ρ H fz slot k r h;simp only[evalOp,De]at h;split at h;rename_i s x T T' ha hts;obtain rfl:=AUR ha;obtain rfl:=AUR hts;split at h;rename_i e t hsl hTT;simp only[AXc]at hTT;subst hTT;split at h;rename_i ys fr zz hys hz hby;obtain⟨hu,hty0,hpos⟩:=Cg hsl;obtain⟨t',cs'⟩:=zz;obtain⟨hty',hcs',i,z,hi0,hz0,hok,hsz,hza⟩:=CU hz;subst hcs';have:t'=t:=by grind
 subst this;have hzs:z.cells.size=i.size:=by have hzd:=CN (w:=default) (F:=fun _=>False) t' _ hok;rw[hsz,← AX0];exact Dat.length t' hzd
 have hby':i.bytes≤1024:=by grind
 split at h;rename_i et hs;split at h;rename_i hfit;split at h;rename_i hf;refine⟨_,_,h,fun R' k'=>by simp only[evalOp,De,hsl,AXi,hys,hz,hby,hs,hfit,hf],Bm fun w F m ρc o hop hty hi hr => ?_⟩;have hrs:=hr s;rw[hs]at hrs;unfold Rep at hrs;obtain⟨A,c,q1,q2,q3,news,q4,q5⟩:=ER hi hys (hr x);obtain⟨v,w',m',hrun,hg,hrep⟩:=Fm (P:=P) (ty:=o.type) hi hf hu hi0 hz0 hzs hsz hpos hby' (by have:(ys.length:Int)≤4294967296:=(Fc _).1 hfit;omega) none (c:=c) q3 q4 q5;exact⟨v,w',F,m',Cn hop hrs q1 hrun,hg,hrep⟩;grind;grind;rename_i t2 xs hs;split at h;rename_i xs' hc hne;split at h;rename_i hfit;split at h;rename_i hf;refine⟨_,_,h,fun R' k'=>by simp only[evalOp,De,hsl,AXi,hys,hz,hby,hs,hc,hne,hfit,hf],Bm fun w F m ρc o hop hty hi hr => ?_⟩;obtain⟨et,hx⟩:=C9 hc;subst et;simp only at hx;subst hx;have hrs:=hr s;rw[hs]at hrs;obtain⟨A,c,q1,q2,q3,news,q4,q5⟩:=ER hi hys (hr x);have hfit':xs.length+ys.length≤4294967296:=by have:((xs.length:Int)+(ys.length:Int))≤4294967296:=(Fc _).1 hfit;omega
 obtain⟨v,w',m',hrun,hg,hrep⟩:=uH (P:=P) (ty:=o.type) hi hf hu hi0 hz0 hzs hsz hpos hby' hfit' (by grind) hrs (c:=c) q3 q4 q5;exact⟨v,w',F,m',Cn hop rfl q1 hrun,hg,hrep⟩;grind;grind;grind;rename_i id hs;split at h;rename_i e' t2 xs ho;split at h;rename_i hue;split at h;rename_i xs' hc;split at h;rename_i hfit;split at h;rename_i hkp;refine⟨_,_,h,fun R' k'=>by simp only[evalOp,De,hsl,AXi,hys,hz,hby,hs,ho,hue,hc,hfit,hkp],Bm fun w F m ρc o hop hty hi hr => ?_⟩;simp only[AXd,AXc]at hue;obtain⟨hun,rfl⟩:=hue;obtain⟨et,hx⟩:=C9 hc;subst et;simp only at hx;subst hx;have hrs:=hr s;rw[hs]at hrs;obtain⟨A,c,q1,q2,q3,news,q4,q5⟩:=ER hi hys (hr x);have hfit':xs.length+ys.length≤4294967296:=by have:((xs.length:Int)+(ys.length:Int))≤4294967296:=(Fc _).1 hfit;omega
 obtain⟨v,w',F',hrun,hg,hrep⟩:=uG (P:=P) (ty:=o.type) hi hu hi0 hz0 hzs hsz hpos hby' ho hun hfit' (c:=c) q3 q4 q5 hrs;exact⟨v,w',F',m,Cn hop rfl q1 hrun,hg,hrep⟩;rename_i hkp;split at h;rename_i hf;refine⟨_,_,h,fun R' k'=>by simp only[evalOp,De,hsl,AXi,hys,hz,hby,hs,ho,hue,hc,hfit,hkp,hf],Bm fun w F m ρc o hop hty hi hr => ?_⟩;simp only[AXd,AXc]at hue;obtain⟨hun,rfl⟩:=hue;obtain⟨et,hx⟩:=C9 hc;subst et;simp only at hx;subst hx;have hrs:=hr s;rw[hs]at hrs;unfold Rep at hrs;rw[ho]at hrs;obtain⟨A,c,q1,q2,q3,news,q4,q5⟩:=ER hi hys (hr x);have hfit':xs.length+ys.length≤4294967296:=by have:((xs.length:Int)+(ys.length:Int))≤4294967296:=(Fc _).1 hfit;omega
 have hsn:=kW hf ho;cases hm:m id with
  |none=>obtain⟨_,hob⟩:=hi.obj id _ ho;rw[hm]at hrs hob;obtain⟨a,e1⟩:=hrs;simp only at hob;subst hob;have hkill:=BQ.kill hi (C3 ho hun);obtain⟨v,w',m',hrun,hg,hrep⟩:=Fm (P:=P) (ty:=o.type) hkill.2 (K9 hf hsn) hu hi0 hz0 hzs hsz hpos hby' (by omega) a (c:=c) q3 q4 q5;exact⟨v,w',F,m',Cn hop e1 q1 hrun,hkill.trans hg,hrep⟩
  |some p=>obtain⟨b,cap⟩:=p;rw[hm]at hrs;simp only[Bq]at hrs;obtain⟨v,w',m',hrun,hg,hrep⟩:=T4 (P:=P) (ty:=o.type) hi hf hu hi0 hz0 hzs hsz hpos hby' ho hun hm (AXl _) hfit' (c:=c) q3 q4 q5;rw[AZJ]at hg hrep;exact⟨v,w',F,m',Cn hop hrs q1 hrun,hg,hrep⟩
 grind;grind;grind;grind;grind;rename_i id kx ver hs;split at h;rename_i T0 e' t2 xs ver' ho;split at h;rename_i hue;split at h;rename_i xs' hc;split at h;rename_i hfit;refine⟨_,_,h,fun R' k'=>by simp only[evalOp,De,hsl,AXi,hys,hz,hby,hs,ho,hue,hc,hfit],Bm fun w F m ρc o hop hty hi hr => ?_⟩;simp only[AXd,AXc]at hue;obtain⟨hun,rfl,rfl⟩:=hue;obtain⟨et,hx⟩:=C9 hc;cases et;simp only at hx;subst hx;have hun':fz.getD id false=false:=by unfold BJ at hun;grind
 have hrs:=hr s;rw[hs]at hrs;obtain⟨A,c,q1,q2,q3,news,q4,q5⟩:=ER hi hys (hr x);have hfit':(A7 xs kx []).length+ys.length≤4294967296:=by have:(((A7 xs kx []).length:Int)+(ys.length:Int))≤4294967296:=(Fc _).1 hfit;omega
 obtain⟨v,w',m',hrun,hg,hrep⟩:=ABo (P:=P) (ty:=o.type) hi hu hi0 hz0 hzs hsz hpos hby' ho hun' hrs hfit' (c:=c) q3 q4 q5;exact⟨v,w',F,m',Cn hop rfl q1 hrun,hg,hrep⟩;grind;grind;grind;grind;rename_i id n hs;split at h;rename_i e' t2 xs ho;split at h;rename_i hue;split at h;rename_i xs' hc;split at h;rename_i hfit;split at h;rename_i hf;refine⟨_,_,h,fun R' k'=>by simp only[evalOp,De,hsl,AXi,hys,hz,hby,hs,ho,hue,hc,hfit,hf],Bm fun w F m ρc o hop hty hi hr => ?_⟩;simp only[AXd,AXc]at hue;obtain⟨hun,rfl⟩:=hue;obtain⟨et,hx⟩:=C9 hc;subst et;simp only at hx;subst hx;have hrs:=hr s;rw[hs]at hrs;unfold Rep at hrs;rw[ho]at hrs;obtain⟨hle,hrs⟩:=hrs;obtain⟨A,c,q1,q2,q3,news,q4,q5⟩:=ER hi hys (hr x);have hfit':n+ys.length≤4294967296:=by have:((n:Int)+(ys.length:Int))≤4294967296:=(Fc _).1 hfit;omega
 have hsn:=kW hf ho;obtain⟨_,hob⟩:=hi.obj id _ ho
 have zero:∀ a,n=0→ρc s = .slice a 0 0→∃ u w' F' m',(execOp ρc o).run P w = .ok (.value u) w'∧BQ w F m H fz w' F' m' ((H.set id .dead).set slot (.arr e _ (BT (C1 n xs) ys))) fz ∧
   Rep w' F' m' ((H.set id .dead).set slot (.arr e _ (BT (C1 n xs) ys))) (.own slot) u:=by
  intro a h0 e1
  subst h0
  have hkill:=BQ.kill hi (C3 ho hun)
  obtain⟨v,w',m',hrun,hg,hrep⟩:=Fm (P:=P) (ty:=o.type) hkill.2 (K9 hf hsn) hu hi0 hz0 hzs hsz hpos hby' (by omega) a (c:=c) q3 q4 q5
  exact⟨v,w',F,m',Cn hop e1 q1 hrun,hkill.trans hg,hrep⟩
 cases hm:m id with
  |none=>
   rw[hm]at hrs hob;obtain⟨a,e1⟩:=hrs;simp only at hob;subst hob;have hn:n=0:=by grind
   exact zero a hn (by grind)
  |some p=>obtain⟨b,cap⟩:=p;rw[hm]at hrs hob;obtain⟨a,e1,e2⟩:=hrs;obtain⟨vs,row,o1,o2,_⟩:=hob;rcases AZB cap with hcap|hcap;exact zero a (by omega) (by grind);have ha:=e2 hcap;rw[AZr]at ha;subst ha;obtain⟨v,w',m',hrun,hg,hrep⟩:=T4 (P:=P) (ty:=o.type) hi hf hu hi0 hz0 hzs hsz hpos hby' ho hun hm (n:=n) (by omega) hfit' (c:=c) q3 q4 q5;exact⟨v,w',F,m',Cn hop e1 q1 hrun,hg,hrep⟩
 grind;grind;grind;grind;grind;grind;grind;rename_i e t hsl hTT;split at h;rename_i et j n zz kk hs hx hz hk hby;split at h;rename_i hfit;split at h;rename_i hf;refine⟨_,_,h,fun R' k'=>by simp only[evalOp,De,hsl,hTT,hs,hx,hz,hk,hby,hfit,hf],Bm fun w F m ρc o hop hty hi hr => ?_⟩;obtain⟨hu,hty0,hpos⟩:=Cg hsl;obtain⟨t',cs'⟩:=zz;obtain⟨hty',hcs',i,z,hi0,hz0,hok,hsz,hza⟩:=CU hz;subst hcs';have:t'=t:=by grind
 subst this;rw[Hz]at hfit;obtain⟨n',rfl⟩:=AXr hfit.1;have hrs:=hr s;rw[hs]at hrs;unfold Rep at hrs;have e2:=Bn (hx▸hr x);have hby':i.bytes≤1024:=by grind
 obtain⟨v,w',m',hrun,hg,hrep⟩:=uF (P:=P) (ty:=o.type) hi hf hu hi0 hz0 hok hsz hpos hby' (G0 hk) (kx:=j) (n:=n') (by omega);exact⟨v,w',F,m',kj hop hrs e2 hrun,hg,hrep⟩;grind;grind;grind;rename_i hsl hTT;simp only[AXc]at hTT;subst hTT;split at h;rename_i e ix hce hx;split at h;rename_i e1 tgt ys hox;split at h;rename_i he;simp only[AXc]at he;subst he;obtain⟨hu,ii,z,hi0,hz0,hsz,hzs,hby⟩:=Tx hce;split at h;rename_i et hs;split at h;rename_i hfit;split at h;rename_i hf;refine⟨_,_,h,fun R' k'=>by simp only[evalOp,De,hsl,AXi,hce,hx,hox,hs,hfit,hf],Bm fun w F m ρc o hop hty hi hr => ?_⟩;have hrs:=hr s;rw[hs]at hrs;unfold Rep at hrs;obtain⟨A,c,q1,q2,news,q3,q4,q5⟩:=AU1 hi hox (hx▸hr x);obtain⟨v,w',m',hrun,hg,hrep⟩:=KQ (P:=P) (ty:=o.type) hi hf hu hi0 hz0 hzs hsz hby (by have:(ys.length:Int)≤4294967296:=(Fc _).1 hfit;omega) none (c:=c) q2 q3 q4 q5;exact⟨v,w',F,m',Cn hop hrs q1 hrun,hg,hrep⟩;grind;grind;rename_i id hs;split at h;rename_i e2 tgt2 xs ho;split at h;rename_i hue;split at h;rename_i hfit;split at h;rename_i hf;refine⟨_,_,h,fun R' k'=>by simp only[evalOp,De,hsl,AXi,hce,hx,hox,hs,ho,hue,hfit,hf],Bm fun w F m ρc o hop hty hi hr => ?_⟩;simp only[AXd,AXc]at hue;obtain⟨rfl,rfl⟩:=hue;have hrs:=hr s;rw[hs]at hrs;unfold Rep at hrs;rw[ho]at hrs;obtain⟨A,c,q1,q2,news,q3,q4,q5⟩:=AU1 hi hox (hx▸hr x);have hfit':xs.length+ys.length≤4294967296:=by have:((xs.length:Int)+(ys.length:Int))≤4294967296:=(Fc _).1 hfit;omega
 have hsn:=sP hf ho;cases hm:m id with
  |none=>have hob:=hi.obj id _ ho;rw[hm]at hrs hob;obtain⟨a,e1⟩:=hrs;have hob:xs=[]:=hob;subst hob;have hkill:=BQ.kill hi (dh ho);obtain⟨v,w',m',hrun,hg,hrep⟩:=KQ (P:=P) (ty:=o.type) hkill.2 (K9 hf hsn) hu hi0 hz0 hzs hsz hby (by omega) a (c:=c) q2 (hkill.1.AXS hi q3) q4 q5;exact⟨v,w',F,m',Cn hop e1 q1 hrun,hkill.trans hg,hrep⟩
  |some p=>obtain⟨b,cap⟩:=p;rw[hm]at hrs;simp only[Bq]at hrs;obtain⟨v,w',m',hrun,hg,hrep⟩:=VV (P:=P) (ty:=o.type) hi hf hu hi0 hz0 hzs hsz hby ho hm hfit' (c:=c) q2 q3 q4 q5;exact⟨v,w',F,m',Cn hop hrs q1 hrun,hg,hrep⟩
 grind;grind;grind;grind;grind;grind;grind;grind;grind;grind
end
end Go.Pev
end
section
namespace Go.Pev
open Go.RowKit
section
variable {P:Program} {E:Env}
theorem AKl(args:Array Operand)(ts:Array TypeId):Claim P E (.call { callee:=.builtin .cap,args:=args,argTypes:=ts }):=by intro R ty ρ H fz slot k r h;simp only[evalOp,AE5]at h;split at h;rename_i x T ha hts;obtain rfl:=AK6 ha;obtain rfl:=AK6 hts;split at h;rename_i e et hu hx;refine⟨_,_,h,fun R' k'=>by simp only[evalOp,AE5,hu,hx],BB fun w F m ρc o hop hty hi hr=>⟨.int .i64 0,?_,Bd _ _⟩⟩;have hrx:=hr x;rw[hx]at hrx;unfold Rep at hrx;simp[execOp,hop,resolve,invoke,builtin,hrx,Builtin.cap_,run_underlying hu,goInt];grind;grind
theorem AKi(args:Array Operand)(ts:Array TypeId):Claim P E (.call { callee:=.builtin .min,args:=args,argTypes:=ts }):=by intro R ty ρ H fz slot k r h;simp only[evalOp,AE3]at h;split at h;rename_i x y ha;obtain rfl:=AUR ha;split at h;rename_i j a j' b hx hy;refine⟨_,_,h,fun R' k'=>by simp only[evalOp,AE3,hx,hy],BB fun w F m ρc o hop hty hi hr=>⟨.int j (Cb a b),?_,Bd _ _⟩⟩;have e1:=Bn (hx▸hr x);have e2:=Bn (hy▸hr y);simp[execOp,hop,resolve,invoke,builtin,e1,e2,run_min_int2,Cb];grind;grind
theorem aP{w:World}(ts:Array TypeId)(t:TypeId)(k k':IntKind)(x y:Int):(Builtin.max_ ts t #[.int k x,.int k' y]).run P w = .ok (.int k (if y > x then y else x)) w:=by simp[Builtin.max_,Builtin.max2]
theorem AKj(args:Array Operand)(ts:Array TypeId):Claim P E (.call { callee:=.builtin .max,args:=args,argTypes:=ts }):=by intro R ty ρ H fz slot k r h;simp only[evalOp,AE4]at h;split at h;rename_i x y ha;obtain rfl:=AUR ha;split at h;rename_i j a j' b hx hy;refine⟨_,_,h,fun R' k'=>by simp only[evalOp,AE4,hx,hy],BB fun w F m ρc o hop hty hi hr=>⟨.int j (imax a b),?_,Bd _ _⟩⟩;have e1:=Bn (hx▸hr x);have e2:=Bn (hy▸hr y);simp[execOp,hop,resolve,invoke,builtin,e1,e2,aP,imax];grind;grind
theorem Lx{H:List Ob}{i:Nat}{o:Ob}(h:H[i]? = some o):H.set i o=H:=by apply AZT;grind
theorem Y3{α:Type}{off n:Nat}{z:α}{xs:List α}(h:off+n≤xs.length):(Dg off n z xs).length=xs.length:=by simp only[Dg,AXn,AYX,AYv,AYn];omega
theorem tB{α:Type}(off:Nat)(z:α)(xs:List α):Dg off 0 z xs=xs:=by simp[Dg]
theorem fa{w:World}{F:Nat→Prop}{m:Mp}{H:List Ob}{fz:List Bool}(hi:HI w F m H fz){id:Nat}{T:TypeId}{t:Ty}{xs:List t.den}(ho:H[id]? = some (.arr T t xs))(hf:BJ fz id=true)
  {b cap:Nat} (hm:m id=some (b,cap)) {off n:Nat} (hle:off+n≤xs.length) {z:List Value} (hz:Dat w F t t.zero z) (h1:∀ u∈z,u.oneCell'=true) {zs:Array Value} (hzs:zs.toList=(List.replicate n z).flatten) :
  ∃ w',(storeCells ⟨b,off*t.size,none⟩ zs.toList).run P w = .ok () w'∧BQ w F m H fz w' F m (H.set id (.arr T t (Dg off n t.zero xs))) fz:=by
 have hob:=hi.obj id _ ho;obtain⟨h0,hob⟩:=hob;rw[hm]at hob;obtain⟨vs,row,e1,e2,e3,e4,e7,e8⟩:=hob;have hk:=fun(x:t.den) cs (h:Dat w F t x cs)=>Dat.length t h;have hlen:=Bv hk e7;have hrz:=FP (w:=w) (F:=F) hz n;have hdl:=Bv hk hrz;rw[AYv,← hzs]at hdl;have hle1:off*t.size+n*t.size≤xs.length*t.size:=by have:=AYT t.size hle;grind
 have hle2:xs.length*t.size≤cap*t.size:=AYT _ e2;have hvl:vs.toList.length=cap*t.size:=by omega
 have hst:=run_storeCells_at P b (off*t.size) T zs.toList 0 vs w e1 (by omega) (by simp_all)
 simp only[AZL,hdl]at hst;obtain⟨r1,r2,r3,r4,r5⟩:=Gw (w:=w) (b:=b) (cs:=(vs.toList.take (off*t.size)++zs.toList++vs.toList.drop (off*t.size+n*t.size)).toArray);refine⟨_,hst,?_⟩;refine BQ.set hi (C3 ho hf) hm ho ⟨rfl,(Y3 hle).symm⟩ r1 r2 r3 r4 r5 fun hmono => ?_;refine⟨h0,?_⟩;rw[hm];refine⟨_,row.take (off*t.size)++(zs.toList++row.drop (off*t.size+n*t.size)),setRow_heap w b vs _ T _ e1,by rw[Y3 hle];exact e2,e3,?_,?_,?_⟩;grind
 have hcell:∀ k,F k→(w.setRow b (vs.toList.take (off*t.size)++zs.toList++vs.toList.drop (off*t.size+n*t.size)).toArray).heap[k]? = w.heap[k]? := fun k ha=>
  Gw.2.2.2.2 k (by rintro rfl;exact hi.off id _ cap (C3 ho hf) hm ha)
 refine B8 (R:=Dat w F t) (fun x _ cs hx=>hx.mono hcell (fun _ h=>h) t) ?_;have:=Hp hk (off+n) e7;rw[AYr]at this;exact II (EZ hk off e7) (II (by grind) this)
 ·have hrl:(row.take (off*t.size)++(zs.toList++row.drop (off*t.size+n*t.size))).length=row.length:=by grind
  rw[hrl];show List.take row.length (vs.toList.take (off*t.size)++zs.toList++vs.toList.drop (off*t.size+n*t.size))=_;have h1:row.take (off*t.size)=vs.toList.take (off*t.size):=by rw[← e8,AaE,AYg (by omega)]
  have h2:row.drop (off*t.size+n*t.size)=(vs.toList.drop (off*t.size+n*t.size)).take (row.length-(off*t.size+n*t.size)):=by
   conv=>lhs;rw[← e8]
   rw[List.drop_take]
  grind
theorem Im{w w':World}{ρc:Operand→Value}{o:Oper}{T:TypeId}{x:Operand}{v:Value}(hop:o.op = .call { callee:=.builtin .clear,args:=#[x],argTypes:=#[T] })(e1:ρc x=v)
  (hrun:(Builtin.clear_ #[T] o.type #[v]).run P w = .ok (.tuple #[]) w'):(execOp ρc o).run P w = .ok (.value (.tuple #[])) w':=by simp[execOp,hop,resolve,invoke,builtin,e1,hrun]
theorem IG{w:World}{T e ty:TypeId}(hu:P.underlying T=some (.slice e))(a:Option Addr)(c:Nat):(Builtin.clear_ #[T] ty #[.slice a 0 c]).run P w = .ok (.tuple #[]) w:=by cases a<;>simp[Builtin.clear_,run_underlying hu]
theorem L3{w w':World}{T e ty:TypeId}(hu:P.underlying T=some (.slice e)){i:TypeInfo}{z:Value}(hi0:P.info? e=some i)(hz:i.zero=some z)(a:Addr){n:Nat}(hn:0<n)(c:Nat)
  (h:(storeCells a (Builtin.zeroCells z.cells n).toList).run P w = .ok () w'):(Builtin.clear_ #[T] ty #[.slice (some a) n c]).run P w = .ok (.tuple #[]) w':=by
 obtain⟨m,rfl⟩:∃ m,n=m+1:=⟨n-1,by omega⟩
 simp[Builtin.clear_,run_underlying hu,B' hi0 hz,h]
theorem AFL{w:World}{F:Nat→Prop}{t:Ty}{d:t.den}{z:List Value}(h:Dat w F t d z):∀ u∈z,u.oneCell'=true:=fun u hu=>Dat.HY t h u hu
theorem tW(args:Array Operand)(ts:Array TypeId):Claim P E (.call { callee:=.builtin .clear,args:=args,argTypes:=ts }):=by
 intro R ty ρ H fz slot k r h;simp only[evalOp,Hb]at h;split at h;rename_i x T ha hts;obtain rfl:=AK6 ha;obtain rfl:=AK6 hts;split at h;rename_i e t hsl;split at h;rename_i zz hz;obtain⟨hu,hty0,hpos⟩:=Cg hsl;obtain⟨t',cs'⟩:=zz;obtain⟨hty',hcs',i,z,hi0,hz0,hok,hsz,hza⟩:=CU hz;subst hcs';have:t'=t:=by grind
 subst this;have hcells:∀ k,(Builtin.zeroCells z.cells k).toList=(List.replicate k z.cells.toList).flatten:=Db z.cells;split at h;rename_i et hx;refine⟨_,_,h,fun R' k'=>by simp only[evalOp,Hb,hsl,hz,hx],Bm fun w F m ρc o hop hty hi hr => ?_⟩;have hrx:=hr x;rw[hx]at hrx;unfold Rep at hrx;exact⟨_,w,F,m,Im hop hrx (IG hu _ _),BQ.refl hi,by unfold Rep;trivial⟩;rename_i id hx;split at h;rename_i e' t2 xs ho;split at h;rename_i hun;refine⟨_,_,h,fun R' k'=>by simp only[evalOp,Hb,hsl,hz,hx,ho,hun],Bm fun w F m ρc o hop hty hi hr => ?_⟩;simp only[AXd,AXc]at hun;obtain⟨hun,ht⟩:=hun;subst ht;have hzd:=CN (w:=w) (F:=F) t' _ hok;have hrx:=hr x;rw[hx]at hrx;unfold Rep at hrx;rw[ho]at hrx;obtain⟨_,hob⟩:=hi.obj id _ ho
 have none_:xs=[]→∀ a c,ρc x = .slice a 0 c→∃ u w' F' m',(execOp ρc o).run P w = .ok (.value u) w'∧BQ w F m H fz w' F' m' (Cy { objs:=[(id,.arr e' t' (Dg 0 xs.length t'.zero xs))] } H) (Ev { objs:=[(id,.arr e' t' (Dg 0 xs.length t'.zero xs))] } fz) ∧
   Rep w' F' m' (Cy { objs:=[(id,.arr e' t' (Dg 0 xs.length t'.zero xs))] } H) .Cr u:=by
  intro hxs a c e1
  refine⟨_,w,F,m,Im hop e1 (IG hu _ _),?_,by unfold Rep;trivial⟩
  have:Dg 0 xs.length t'.zero xs=xs:=by rw[hxs];rfl
  rw[this]
  have hs:Cy { objs:=[(id,.arr e' t' xs)] } H=H:=Lx ho
  rw[hs]
  exact BQ.refl hi
 cases hm:m id with
  |none=>rw[hm]at hrx hob;obtain⟨a,e1⟩:=hrx;grind
  |some p=>obtain⟨b,cap⟩:=p;rw[hm]at hrx;simp only[Bq]at hrx;rcases AZB xs.length with hl|hl;grind;obtain⟨w',hst,hg⟩:=fa (P:=P) hi ho hun hm (off:=0) (n:=xs.length) (by omega) hzd (AFL hzd) (hcells xs.length);rw[AZr]at hst;exact⟨_,w',F,m,Im hop hrx (L3 hu hi0 hz0 _ hl _ hst),hg,by unfold Rep;trivial⟩
 grind;grind;rename_i id off n hx;split at h;rename_i e' t2 xs ho;split at h;rename_i hun;refine⟨_,_,h,fun R' k'=>by simp only[evalOp,Hb,hsl,hz,hx,ho,hun],Bm fun w F m ρc o hop hty hi hr => ?_⟩;simp only[AXd,AXc]at hun;obtain⟨hun,ht⟩:=hun;subst ht;have hzd:=CN (w:=w) (F:=F) t' _ hok;have hrx:=hr x;rw[hx]at hrx;unfold Rep at hrx;rw[ho]at hrx;obtain⟨hle,hrx⟩:=hrx;obtain⟨_,hob⟩:=hi.obj id _ ho
 have none_:n=0→∀ a c,ρc x = .slice a n c→∃ u w' F' m',(execOp ρc o).run P w = .ok (.value u) w'∧BQ w F m H fz w' F' m' (Cy { objs:=[(id,.arr e' t' (Dg off n t'.zero xs))] } H) (Ev { objs:=[(id,.arr e' t' (Dg off n t'.zero xs))] } fz) ∧
   Rep w' F' m' (Cy { objs:=[(id,.arr e' t' (Dg off n t'.zero xs))] } H) .Cr u:=by
  intro hxs a c e1
  subst hxs
  refine⟨_,w,F,m,Im hop e1 (IG hu _ _),?_,by unfold Rep;trivial⟩
  rw[tB]
  have hs:Cy { objs:=[(id,.arr e' t' xs)] } H=H:=Lx ho
  rw[hs]
  exact BQ.refl hi
 cases hm:m id with
  |none=>grind
  |some p=>obtain⟨b,cap⟩:=p;rw[hm]at hrx hob;obtain⟨vs,row,o1,o2,_⟩:=hob;obtain⟨a,e1,e2⟩:=hrx;rcases AZB n with hl|hl;grind;have ha:=e2 (by omega);subst ha;obtain⟨w',hst,hg⟩:=fa (P:=P) hi ho hun hm (off:=off) (n:=n) hle hzd (AFL hzd) (hcells n);exact⟨_,w',F,m,Im hop e1 (L3 hu hi0 hz0 _ hl _ hst),hg,by unfold Rep;trivial⟩
 grind;grind;grind;grind;grind;grind
end
end Go.Pev
end
section
namespace Go.Pev
open Go.RowKit
section
variable {P:Program}
def Dc:(t:Ty)→t.den→List Value
 |.unit,_=>[]
 |.bool,b=>[.bool b]
 |.int k,n=>[.int k n]
 |.prod a b,d=>Dc a d.1++Dc b d.2
 |.slice _,_=>[]
 |.arr _ _,_=>[]
 |.nul _,_=>[]
 |.mapi _ _,_=>[]
def Cx(t:Ty)(d:t.den):Value:=match t,d with
 |.int k,n=>.int k n
 |t,d=>.agg (Dc t d).toArray
structure ALC(P:Program)(kt:TypeId)(t:Ty):Prop where
 rep:∀ (w:World) (F:Nat→Prop) (d:t.den) (v:Value),CW w F t d v↔v=Cx t d
 check:∀ (w:World) (b:Bool) (d:t.den),(Instr.checkKey b 10000 kt (Cx t d)).run P w = .ok () w
 stays:∀ (w:World) (d:t.den),(Instr.keyThatStays (Cx t d) (Cx t d)).run P w = .ok (Cx t d) w
 find:∀ (w:World) (F:Nat→Prop) (b:Ty) (key:t.den) (es:List (t.den×b.den)) (ms:List MapEntry),I2 w F t b es ms →
  (@HG _ _ (decDen t) es key=none∧@BA _ _ (decDen t) es key=none∧(Instr.findKey kt (Cx t key) ms).run P w = .ok none w) ∨
  (∃ x n me,@HG _ _ (decDen t) es key=some n∧@BA _ _ (decDen t) es key=some x∧(Instr.findKey kt (Cx t key) ms).run P w = .ok (some (n,me.val)) w∧ms[n]? = some me∧CW w F b x me.val∧me.key=Cx t key)
theorem ALC.store{kt:TypeId}{t:Ty}(hK:ALC P kt t){w:World}{F:Nat→Prop}{b:Ty}(key:t.den)(val:b.den)(v:Value)(hv:CW w F b val v):∀ {es:List (t.den×b.den)} {ms:List MapEntry},I2 w F t b es ms →
  (∀ clock,@HG _ _ (decDen t) es key=none→I2 w F t b (@BP _ _ (decDen t) es key val) (ms++[{ key:=Cx t key,val:=v,born:=clock }])) ∧
  (∀ n,@HG _ _ (decDen t) es key=some n→I2 w F t b (@BP _ _ (decDen t) es key val) (ms.modify n fun e=>{ e with key:=Cx t key,val:=v })):=by
 haveI:=decDen t;intro es;induction es with
  |nil=>rintro ms rfl;exact⟨fun clock _=>⟨_,[],rfl,⟨(hK.rep w F key _).2 rfl,hv⟩,rfl⟩,fun n h=>by simp[HG]at h⟩
  |cons e es ih=>rintro ms ⟨me0,ms',rfl,⟨h1,h2⟩,h3⟩;obtain⟨a,x⟩:=e;obtain⟨ih1,ih2⟩:=ih h3;by_cases hak:a=key;subst hak;refine⟨fun clock h=>by simp[HG]at h,fun n h => ?_⟩;simp only[HG,AX9,AXa]at h;subst h;simp only[BP,AX9,List.modify_zero_cons];exact⟨_,ms',rfl,⟨(hK.rep w F a _).2 rfl,hv⟩,h3⟩;simp only[BP,hak,AXv,HG];refine⟨fun clock h => ?_,fun n h => ?_⟩;rw[Option.map_eq_none_iff]at h;exact⟨me0,_,rfl,⟨h1,h2⟩,ih1 clock h⟩;rw[AXm]at h;obtain⟨n',h',rfl⟩:=h;rw[List.modify_succ_cons];exact⟨me0,_,rfl,⟨h1,h2⟩,ih2 n' h'⟩
theorem QD{kt:TypeId}{j:IntKind}(hu:P.underlying kt=some (.int j)):ALC P kt (.int j):=by
 have hrep:∀ (w:World) (F:Nat→Prop) (d:Int) (v:Value),CW w F (.int j) d v↔v = .int j d:=by intro w F d v;show Dat w F (.int j) d [v]↔_;simp[Dat]
 refine⟨hrep,fun w b d => ?_,fun w d => ?_,fun w F b key es ms h => ?_⟩;have gen:∀ n,(Instr.checkKey b (n+1) kt (.int j d)).run P w = .ok () w:=fun n=>by simp[Instr.checkKey,run_underlying hu]
 exact gen 9999;have gen:∀ n,Instr.sameBits n (.int j d) (.int j d)=true:=fun n=>by cases n<;>simp[Instr.sameBits]
 show(Instr.keyThatStays (.int j d) (.int j d)).run P w=_;simp[Instr.keyThatStays,gen];rfl;have hfk:∀ r,Instr.findNow (.int j) (.int j key) ms 0=some r→(Instr.findKey kt (.int j key) ms).run P w = .ok r w:=by intro r hr';simp[Instr.findKey,run_underlying hu,hr']
 have gen:∀ (es:List (Int×b.den)) (ms:List MapEntry) (i:Nat),I2 w F (.int j) b es ms →
   (HG (α:=Int) es key=none∧BA (α:=Int) es key=none∧Instr.findNow (.int j) (.int j key) ms i=some none) ∨
   (∃ x n me,HG (α:=Int) es key=some n∧BA (α:=Int) es key=some x∧Instr.findNow (.int j) (.int j key) ms i=some (some (i+n,me.val))∧ms[n]? = some me∧CW w F b x me.val∧me.key = .int j key):=by
  intro es
  induction es with
  |nil=>rintro ms i rfl;exact .inl ⟨rfl,rfl,rfl⟩
  |cons e es ih=>
   rintro ms i ⟨me,ms',rfl,⟨h1,h2⟩,h3⟩
   obtain⟨a,x⟩:=e
   have hk:=(hrep w F a _).1 h1
   simp only at h2
   by_cases hak:a=key
   ·subst hak
    refine .inr ⟨x,0,me,by simp[HG],by simp[BA],?_,rfl,h2,hk⟩
    simp[Instr.findNow,Instr.sameNow,hk]
   ·have hfn:Instr.findNow (.int j) (.int j key) (me::ms') i=Instr.findNow (.int j) (.int j key) ms' (i+1):=by
     have:(key==a)=false:=by grind
     simp[Instr.findNow,Instr.sameNow,hk,this]
    rcases ih ms' (i+1) h3 with⟨q0,q1,q2⟩|⟨y,n,me',q0,q1,q2,q3,q4,q5⟩
    ·exact .inl ⟨by simp[HG,hak,q0],by simp[BA,hak,q1],by grind⟩
    ·exact .inr ⟨y,n+1,me',by simp[HG,hak,q0],by simp[BA,hak,q1],by grind,by grind,q4,q5⟩
 rcases gen es ms 0 h with⟨q0,q1,q2⟩|⟨x,n,me,q0,q1,q2,q3,q4,q5⟩
 exact .inl ⟨q0,q1,hfk _ q2⟩;rw[AYQ]at q2;exact .inr ⟨x,n,me,q0,q1,hfk _ q2,q3,q4,q5⟩
theorem Q0{w:World}{F:Nat→Prop}:∀ (t:Ty) {n:List Bool},kinds? t=some n→∀ (d:t.den) (cs:List Value),Dat w F t d cs↔cs=Dc t d
 |.unit,_,_,d,cs=>Iff.rfl
 |.prod (.int k) r,n,h,d,cs=>by simp only[kinds?,AXm]at h;obtain⟨n',h',rfl⟩:=h;constructor;rintro⟨c1,c2,rfl,h1,h2⟩;rw[(Q0 r h' d.2 c2).1 h2];have h1:c1=[.int k d.1]:=h1;rw[h1];rfl;rintro rfl;exact⟨[.int k d.1],Dc r d.2,rfl,rfl,(Q0 r h' d.2 _).2 rfl⟩
 |.prod .bool r,n,h,d,cs=>by simp only[kinds?,AXm]at h;obtain⟨n',h',rfl⟩:=h;constructor;rintro⟨c1,c2,rfl,h1,h2⟩;rw[(Q0 r h' d.2 c2).1 h2];have h1:c1=[.bool d.1]:=h1;rw[h1];rfl;rintro rfl;exact⟨[.bool d.1],Dc r d.2,rfl,rfl,(Q0 r h' d.2 _).2 rfl⟩
 |.prod .unit _,_,h,_,_=>by simp[kinds?]at h
 |.prod (.slice _) _,_,h,_,_=>by simp[kinds?]at h
 |.prod (.prod _ _) _,_,h,_,_=>by simp[kinds?]at h
 |.prod (.arr _ _) _,_,h,_,_=>by simp[kinds?]at h
 |.bool,_,h,_,_=>by simp[kinds?]at h
 |.int _,_,h,_,_=>by simp[kinds?]at h
 |.slice _,_,h,_,_=>by simp[kinds?]at h
 |.arr _ _,_,h,_,_=>by simp[kinds?]at h
theorem Sg:∀ (t:Ty) {n:List Bool},kinds? t=some n→∀ (d d':t.den),B6 n (CC t d) (CC t d')=some (@decide (d=d') (decDen t d d'))
 |.unit,n,h,d,d'=>by simp only[kinds?,AXa]at h;subst h;cases d;cases d';simp[CC,B6]
 |.prod (.int k) r,n,h,d,d'=>by simp only[kinds?,AXm]at h;obtain⟨n',h',rfl⟩:=h;obtain⟨a,x⟩:=d;obtain⟨b,y⟩:=d';have:=Sg r h' x y;simp only[CC,AZC,B6,AXi,this,D_];congr 1;grind
 |.prod .bool r,n,h,d,d'=>by simp only[kinds?,AXm]at h;obtain⟨n',h',rfl⟩:=h;obtain⟨a,x⟩:=d;obtain⟨b,y⟩:=d';have:=Sg r h' x y;simp only[CC,AZC,B6,this];congr 1;grind
 |.prod .unit _,_,h,_,_=>by simp[kinds?]at h
 |.prod (.slice _) _,_,h,_,_=>by simp[kinds?]at h
 |.prod (.prod _ _) _,_,h,_,_=>by simp[kinds?]at h
 |.prod (.arr _ _) _,_,h,_,_=>by simp[kinds?]at h
 |.bool,_,h,_,_=>by simp[kinds?]at h
 |.int _,_,h,_,_=>by simp[kinds?]at h
 |.slice _,_,h,_,_=>by simp[kinds?]at h
 |.arr _ _,_,h,_,_=>by simp[kinds?]at h
theorem Oi:∀ (t:Ty) {n:List Bool},kinds? t=some n→∀ (d:t.den),∀ v∈Dc t d,(∃ k i,v = .int k i)∨∃ b,v = .bool b
 |.unit,_,_,d,v,hv=>by simp[Dc]at hv
 |.prod (.int k) r,n,h,d,v,hv=>by simp only[kinds?,AXm]at h;obtain⟨n',h',rfl⟩:=h;simp only[Dc,AZC,AXf]at hv;rcases hv with rfl|hv;simp;exact Oi r h' d.2 v hv
 |.prod .bool r,n,h,d,v,hv=>by simp only[kinds?,AXm]at h;obtain⟨n',h',rfl⟩:=h;simp only[Dc,AZC,AXf]at hv;rcases hv with rfl|hv;simp;exact Oi r h' d.2 v hv
 |.prod .unit _,_,h,_,_,_=>by simp[kinds?]at h
 |.prod (.slice _) _,_,h,_,_,_=>by simp[kinds?]at h
 |.prod (.prod _ _) _,_,h,_,_,_=>by simp[kinds?]at h
 |.prod (.arr _ _) _,_,h,_,_,_=>by simp[kinds?]at h
 |.bool,_,h,_,_,_=>by simp[kinds?]at h
 |.int _,_,h,_,_,_=>by simp[kinds?]at h
 |.slice _,_,h,_,_,_=>by simp[kinds?]at h
 |.arr _ _,_,h,_,_,_=>by simp[kinds?]at h
theorem J'{t:Ty}{n:List Bool}(h:kinds? t=some n)(d:t.den):Cx t d = .agg (Dc t d).toArray∧t.isAgg=true:=by cases t<;>first|exact⟨rfl,rfl⟩|(simp[kinds?]at h)
end
end Go.Pev
end
section
namespace Go.Pev
open Go.RowKit
section
variable {P:Program}
theorem Oj:∀ (t:Ty) {n:List Bool},kinds? t=some n→∀ (d:t.den),(Dc t d).length=n.length
 |.unit,n,h,d=>by simp only[kinds?,AXa]at h;subst h;rfl
 |.prod (.int k) r,n,h,d=>by simp only[kinds?,AXm]at h;obtain⟨n',h',rfl⟩:=h;simp[Dc,Oj r h' d.2]
 |.prod .bool r,n,h,d=>by simp only[kinds?,AXm]at h;obtain⟨n',h',rfl⟩:=h;simp[Dc,Oj r h' d.2]
 |.prod .unit _,_,h,_=>by simp[kinds?]at h
 |.prod (.slice _) _,_,h,_=>by simp[kinds?]at h
 |.prod (.prod _ _) _,_,h,_=>by simp[kinds?]at h
 |.prod (.arr _ _) _,_,h,_=>by simp[kinds?]at h
 |.bool,_,h,_=>by simp[kinds?]at h
 |.int _,_,h,_=>by simp[kinds?]at h
 |.slice _,_,h,_=>by simp[kinds?]at h
 |.arr _ _,_,h,_=>by simp[kinds?]at h
theorem lU{w:World}{T:TypeId}(h:Lz P T=true)(b:Bool)(n:Nat){v:Value}:(Instr.checkKey b (n+1) T v).run P w = .ok () w:=by
 rcases Ck h with⟨k,hk,_⟩|⟨hk,_⟩
 simp[Instr.checkKey,run_underlying hk];simp[Instr.checkKey,run_underlying hk]
theorem lV{w:World}(b:Bool)(d:Nat)(xs:Array Value):∀ (fs:List Field) (i:Nat),EN P fs i=true→i+fs.length≤xs.size →
  (forIn fs PUnit.unit fun (f : Field) (_ : PUnit) => ((if f.name ≠ "_" then (part f.type xs f.offset >>= fun v => Instr.checkKey b (d + 1) f.type v >>= fun _ => pure (ForInStep.yield PUnit.unit)) else pure (ForInStep.yield PUnit.unit)) : Sem (ForInStep PUnit))).run P w = .ok PUnit.unit w := by
 intro fs;induction fs with
  |nil=>simp
  |cons f fs ih=>
   intro i hok hl;simp only[EN,AXd,bne_iff_ne,AXc]at hok;obtain⟨hn,ho,hsc,hok⟩:=hok;rw[AXg]at hl;have hag:Ew P f.type=some false:=by rcases Ck hsc with⟨k,hk,_⟩|⟨hk,_⟩<;>simp[Ew,hk]
   have hlt:i<xs.size:=by omega
   have p1:(part f.type xs f.offset).run P w = .ok xs[i] w:=by rw[ho];simp[part,DE hag,hlt]
   have h3:=ih (i+1) hok (by omega);simp only[List.forIn_cons,Sem.run_bind,hn,ne_eq,not_false_eq_true,AX9,p1,Result.andThen_ok,lU hsc,Sem.run_pure];exact h3
theorem AAM{kt:TypeId}{t:Ty}{n:List Bool}(hs:structEq P kt=some n)(hk:kinds? t=some n):ALC P kt t:=by
 obtain⟨fs,hu,hgt,hst,hok,hn⟩:=aN hs;have hfo:P.fieldsOf kt=fs:=by simp[Program.fieldsOf,hu]
 have hrep:∀ (w:World) (F:Nat→Prop) (d:t.den) (v:Value),CW w F t d v↔v=Cx t d:=by intro w F d v;obtain⟨e1,e2⟩:=J' hk d;unfold CW;rw[AXp e2,e1];constructor;rintro⟨vs,rfl,h⟩;have:=(Q0 t hk d _).1 h;rw[← this];rintro rfl;exact⟨_,rfl,(Q0 t hk d _).2 (by simp)⟩
 have hlen:∀ d:t.den,(Dc t d).length=fs.size:=by intro d;rw[Oj t hk d,hn,AYU,AX0]
 refine⟨hrep,fun w b d => ?_,fun w d => ?_,fun w F b key es ms h => ?_⟩;rw[(J' hk d).1];have:=fun m=>lV (P:=P) (w:=w) b m (Dc t d).toArray fs.toList 0 hok (by grind);have gen:∀ m,(Instr.checkKey b (m+1+1) kt (.agg (Dc t d).toArray)).run P w = .ok () w:=by intro m;rw[Instr.checkKey];simp only[Sem.run_bind,run_underlying hu,Result.andThen_ok];simp_all
 grind;rw[(J' hk d).1];have gen:∀ m,Instr.sameBits (m+1) (.agg (Dc t d).toArray) (.agg (Dc t d).toArray)=true:=by
  intro m;have hz:∀ l:List Value,(∀ v∈l,(∃ k i,v = .int k i)∨∃ b,v = .bool b)→((l.zip l).all fun p=>Instr.sameBits m p.1 p.2)=true:=by
   intro l;induction l with
    |nil=>simp
    |cons v l ih=>
     intro h;rw[List.zip_cons_cons,List.all_cons,ih (fun x hx=>h x (by simp[hx]))];rcases h v (by simp)with⟨k,i,rfl⟩|⟨b,rfl⟩
     cases m<;>simp[Instr.sameBits];cases m<;>simp[Instr.sameBits]
  simp only[Instr.sameBits,beq_self_eq_true,AaN];exact hz _ (Oi t hk d)
 unfold Instr.keyThatStays;simp_all;have heq:∀ d d':t.den,(Op.equal kt (Cx t d) (Cx t d')).run P w = .ok (@decide (d=d') (decDen t d d')) w:=by intro d d';rw[(J' hk d).1,(J' hk d').1];unfold Op.equal Op.maxDepth;rw[run_equalIn_agg w 9999 kt _ _ (by grind) hst,hfo];have r:∀ x:t.den,BD w F (fun _=>none) [] (CC t x) ((Dc t x).toArray.toList.drop 0):=fun x=>Il t ((Q0 t hk x _).2 (by simp));exact Qu 9998 _ _ fs.toList 0 (CC t d) (CC t d') _ hok (r d) (r d') (by rw[← hn];exact Sg t hk d d')
 have gen:∀ (es:List (t.den×b.den)) (ms:List MapEntry) (i:Nat),I2 w F t b es ms →
   (HG es key=none∧BA es key=none∧(Instr.findAsking kt (Cx t key) ms i).run P w = .ok none w) ∨
   (∃ x n me,HG es key=some n∧BA es key=some x∧(Instr.findAsking kt (Cx t key) ms i).run P w = .ok (some (i+n,me.val)) w∧ms[n]? = some me∧CW w F b x me.val∧me.key=Cx t key):=by
  intro es
  induction es with
  |nil=>rintro ms i rfl;exact .inl ⟨rfl,rfl,by simp[Instr.findAsking]⟩
  |cons e es ih=>
   rintro ms i ⟨me,ms',rfl,⟨h1,h2⟩,h3⟩
   obtain⟨a,x⟩:=e
   have hkk:=(hrep w F a _).1 h1
   simp only at h2
   have hq:=heq key a
   by_cases hak:a=key
   ·subst hak
    rw[AXb rfl]at hq
    refine .inr ⟨x,0,me,by simp[HG],by simp[BA],?_,rfl,h2,hkk⟩
    simp[Instr.findAsking,hkk,hq]
   ·rw[AXZ (fun h=>hak h.symm)]at hq
    have hfn:(Instr.findAsking kt (Cx t key) (me::ms') i).run P w=(Instr.findAsking kt (Cx t key) ms' (i+1)).run P w:=by
     simp[Instr.findAsking,hkk,hq]
    rcases ih ms' (i+1) h3 with⟨q0,q1,q2⟩|⟨y,n,me',q0,q1,q2,q3,q4,q5⟩
    ·exact .inl ⟨by simp[HG,hak,q0],by simp[BA,hak,q1],by grind⟩
    ·exact .inr ⟨y,n+1,me',by simp[HG,hak,q0],by simp[BA,hak,q1],by grind,by grind,q4,q5⟩
 have hfk:∀ r,(Instr.findAsking kt (Cx t key) ms).run P w = .ok r w→(ms=[]→r=none)→(Instr.findKey kt (Cx t key) ms).run P w = .ok r w:=by
  intro r hr' hnil;cases ms with
   |nil=>simp[Instr.findKey,run_underlying hu,Instr.findNow,hnil rfl]
   |cons me ms=>simp only[Instr.findKey,Sem.run_bind,run_underlying hu,Result.andThen_ok,Instr.findNow,Instr.sameNow];exact hr'
 grind
theorem af{T:TypeId}{t:Ty}(h:Pu P T=some t):∃ e k,P.underlying T=some (.array 2 e)∧P.underlying e=some (.int k)∧CD P e=some 1∧t = .prod (.int k) (.prod (.int k) .unit):=by unfold Pu at h;grind
theorem AOq{kt:TypeId}{t:Ty}(hp:Pu P kt=some t):ALC P kt t:=by
 obtain⟨e,j,hu,he,hs,rfl⟩:=af hp;obtain⟨i0,hi0,hi1⟩:=Bs hs;have hk:kinds? (.prod (.int j) (.prod (.int j) .unit))=some [true,true]:=rfl;have hag:Ew P e=some false:=by simp[Ew,he]
 have hsz:∀ w,(sizeOf e).run P w = .ok 1 w:=fun w=>by rw[run_sizeOf hi0,hi1]
 have hkv:∀ d:(Ty.prod (.int j) (.prod (.int j) .unit)).den,Cx (.prod (.int j) (.prod (.int j) .unit)) d = .agg #[.int j d.1,.int j d.2.1]:=fun d=>rfl;have hrep:∀ (w:World) (F:Nat→Prop) (d:(Ty.prod (.int j) (.prod (.int j) .unit)).den) (v:Value),CW w F (.prod (.int j) (.prod (.int j) .unit)) d v↔v=Cx (.prod (.int j) (.prod (.int j) .unit)) d:=by intro w F d v;obtain⟨e1,e2⟩:=J' hk d;unfold CW;rw[AXp e2,e1];constructor;rintro⟨vs,rfl,h⟩;have:=(Q0 _ hk d _).1 h;rw[← this];rintro rfl;exact⟨_,rfl,(Q0 _ hk d _).2 (by simp)⟩
 have hpart:∀ (w:World) (a b:Value),(part e #[a,b] 0).run P w = .ok a w∧(part e #[a,b] 1).run P w = .ok b w:=fun w a b=>by constructor<;>simp[part,DE hag]
 have hck1:∀ (w:World) (b:Bool) (n:Nat) (d:Int),(Instr.checkKey b (n+1) e (.int j d)).run P w = .ok () w:=fun w b n d=>by simp[Instr.checkKey,run_underlying he]
 refine⟨hrep,fun w b d => ?_,fun w d => ?_,fun w F b key es ms h => ?_⟩;rw[hkv];have gen:∀ m,(Instr.checkKey b (m+1+1) kt (.agg #[.int j d.1,.int j d.2.1])).run P w = .ok () w:=by intro m;rw[Instr.checkKey];simp only[Sem.run_bind,run_underlying hu,Result.andThen_ok];simp[Std.Legacy.Range.forIn_eq_forIn_range',Std.Legacy.Range.size,List.range',hsz,(hpart w _ _).1,(hpart w _ _).2,hck1]
 grind;rw[hkv];have gen:∀ m,Instr.sameBits (m+1) (.agg #[.int j d.1,.int j d.2.1]) (.agg #[.int j d.1,.int j d.2.1])=true:=by intro m;cases m<;>simp[Instr.sameBits]
 unfold Instr.keyThatStays;simp_all;have heq:∀ d d':(Ty.prod (.int j) (.prod (.int j) .unit)).den,(Op.equal kt (Cx (.prod (.int j) (.prod (.int j) .unit)) d) (Cx (.prod (.int j) (.prod (.int j) .unit)) d')).run P w = .ok (@decide (d=d') (decDen (.prod (.int j) (.prod (.int j) .unit)) d d')) w:=by
  intro d d';rw[hkv,hkv];have hone:∀ (n:Nat) (a b:Int),(Op.equalIn (n+1) e (.int j a) (.int j b)).run P w = .ok (a==b) w:=fun n a b=>by simp[Op.equalIn,run_underlying he]
  have gen:∀ n,(Op.equalIn (n+1+1) kt (.agg #[.int j d.1,.int j d.2.1]) (.agg #[.int j d'.1,.int j d'.2.1])).run P w = .ok ((d.1==d'.1)&&(d.2.1==d'.2.1)) w:=by intro n;rw[Op.equalIn];simp only[Sem.run_bind,run_underlying hu,Result.andThen_ok,hsz];simp only[Std.Legacy.Range.forIn_eq_forIn_range',Std.Legacy.Range.size,List.range',AZr,AZa];by_cases h1:d.1=d'.1;by_cases h2:d.2.1=d'.2.1<;>simp[hone,(hpart w _ _).1,(hpart w _ _).2,h1,h2];simp_all
  unfold Op.equal;have:=gen 9998;rw[show Op.maxDepth=9998+1+1 from rfl,this];congr 1;grind
 have gen:∀ (es:List ((Ty.prod (.int j) (.prod (.int j) .unit)).den×b.den)) (ms:List MapEntry) (i:Nat),I2 w F (.prod (.int j) (.prod (.int j) .unit)) b es ms →
   (@HG _ _ (decDen _) es key=none∧@BA _ _ (decDen _) es key=none∧(Instr.findAsking kt (Cx (.prod (.int j) (.prod (.int j) .unit)) key) ms i).run P w = .ok none w) ∨
   (∃ x n me,@HG _ _ (decDen _) es key=some n∧@BA _ _ (decDen _) es key=some x∧(Instr.findAsking kt (Cx (.prod (.int j) (.prod (.int j) .unit)) key) ms i).run P w = .ok (some (i+n,me.val)) w∧ms[n]? = some me∧CW w F b x me.val∧me.key=Cx (.prod (.int j) (.prod (.int j) .unit)) key):=by
  intro es
  induction es with
  |nil=>rintro ms i rfl;exact .inl ⟨rfl,rfl,by simp[Instr.findAsking]⟩
  |cons e' es ih=>
   rintro ms i ⟨me,ms',rfl,⟨h1,h2⟩,h3⟩
   obtain⟨a,x⟩:=e'
   have hkk:=(hrep w F a _).1 h1
   simp only at h2
   have hq:=heq key a
   by_cases hak:a=key
   ·subst hak
    rw[AXb rfl]at hq
    refine .inr ⟨x,0,me,by simp[HG],by simp[BA],?_,rfl,h2,hkk⟩
    simp[Instr.findAsking,hkk,hq]
   ·rw[AXZ (fun h=>hak h.symm)]at hq
    have hfn:(Instr.findAsking kt (Cx (.prod (.int j) (.prod (.int j) .unit)) key) (me::ms') i).run P w=(Instr.findAsking kt (Cx (.prod (.int j) (.prod (.int j) .unit)) key) ms' (i+1)).run P w:=by
     simp[Instr.findAsking,hkk,hq]
    rcases ih ms' (i+1) h3 with⟨q0,q1,q2⟩|⟨y,n,me',q0,q1,q2,q3,q4,q5⟩
    ·exact .inl ⟨by simp[HG,hak,q0],by simp[BA,hak,q1],by grind⟩
    ·exact .inr ⟨y,n+1,me',by simp[HG,hak,q0],by simp[BA,hak,q1],by grind,by grind,q4,q5⟩
 have hfk:∀ r,(Instr.findAsking kt (Cx (.prod (.int j) (.prod (.int j) .unit)) key) ms).run P w = .ok r w→(ms=[]→r=none)→(Instr.findKey kt (Cx (.prod (.int j) (.prod (.int j) .unit)) key) ms).run P w = .ok r w:=by
  intro r hr' hnil;cases ms with
   |nil=>simp[Instr.findKey,run_underlying hu,Instr.findNow,hnil rfl]
   |cons me ms=>simp only[Instr.findKey,Sem.run_bind,run_underlying hu,Result.andThen_ok,Instr.findNow,Instr.sameNow];exact hr'
 grind
theorem QE{kt:TypeId}{t:Ty}(h:YA P kt=some t):ALC P kt t:=by unfold YA at h;split at h;rename_i t' hi;cases h;unfold AOz at hi;split at hi;rename_i k hu;cases hi;exact QD hu;grind;split at h;rename_i n t' hs ht;split at h;rename_i hd;cases h;exact AAM hs (AZq hd);grind;exact AOq h
end
end Go.Pev
end
section
namespace Go.Pev
open Go.RowKit
section
variable {P:Program} {E:Env}
theorem AOy{w:World}{F:Nat→Prop}{m:Mp}{H:List Ob}:∀ {cs:List AV} {l:List (IntKind×Int)} {us:List Value},ru cs=some l→BD w F m H cs us→us=l.map fun p=>Value.int p.1 p.2:=by
 intro cs;induction cs with
  |nil=>intro l us h hr;simp only[ru,AXa]at h;subst h;unfold BD at hr;exact hr
  |cons c cs ih=>intro l us h hr;unfold ru at h;split at h;grind;rename_i k n r h1;cases h1;simp only[AXm]at h;obtain⟨l',h2,rfl⟩:=h;unfold BD at hr;obtain⟨u,us',rfl,h3,h4⟩:=hr;rw[Bn h3,ih h2 h4];rfl;grind
theorem AOw{w:World}{F:Nat→Prop}{m:Mp}{H:List Ob}:∀ (l:List (IntKind×Int)),BD w F m H (l.map fun p=>AV.data (.int p.1) p.2) (l.map fun p=>Value.int p.1 p.2):=by
 intro l;induction l with
  |nil=>unfold BD;rfl
  |cons p l ih=>simp only[AX4];unfold BD;exact⟨_,_,rfl,Bd _ _,ih⟩
theorem Nq(T:TypeId)(x:Operand):Claim P E (.makeInterface T x):=by
 intro R ty ρ H fz slot k r h;simp only[evalOp,Ey]at h;split at h;rename_i fs l hu hag hl;refine⟨_,_,h,fun R' k'=>by simp only[evalOp,Ey,hu,hag,hl],BB fun w F m ρc o hop hty hi hr => ?_⟩;cases hc:cells? (ρ x)with
  |none=>grind
  |some cs=>
   rw[hc]at hl;simp only[AYA]at hl;obtain⟨vs,e1⟩:=KP hag (hr x);have hrc:=cells?_ok hc (hr x);rw[e1]at hrc;have e2:=AOy hl hrc;simp only[Value.cells]at e2;refine⟨Ji (some (T,l)),?_,by unfold Rep;rfl⟩;have e3:vs=(l.map fun p=>Value.int p.1 p.2).toArray:=by grind
   simp[execOp,hop,e1,Instr.makeInterface,run_underlying hu,Ji,e3]
 grind
theorem Sl(x:Operand)(S T:TypeId)(ok:Bool):Claim P E (.typeAssert x S T ok):=by
 intro R ty ρ H fz slot k r h;simp only[evalOp,Eh]at h;split at h;rename_i fs t cs q hu hz hx;split at h;rename_i hok;have hok':=hok;rw[AXd]at hok';obtain⟨rfl,hag⟩:=hok';obtain⟨hty',hcs',i,z,hi0,hz0,hzk,hsz,hza⟩:=CU hz;have hzr:∀ (w:World) (F:Nat→Prop) (m:Mp),Rep w F m H (.agg cs) z:=by
  intro w F m;rw[hag]at hza;cases z with
   |agg zs=>unfold Rep;exact⟨zs,rfl,HT _ _ hzk,KW _ _ hzk⟩
   |_=>simp[Om]at hza
 have tup:∀ (w:World) (F:Nat→Prop) (m:Mp) (a:AV) (u:Value) (b:Bool),Rep w F m H a u→Rep w F m H (.tup [a,.data .bool b]) (.tuple #[u,.bool b]):=by intro w F m a u b h;unfold Rep;refine⟨_,rfl,?_⟩;unfold BD;exact⟨u,_,rfl,h,Mz (B4 _)⟩
 have hq:∀ {w:World} {F:Nat→Prop} {m:Mp} {ρc:Operand→Value},(∀ x,Rep w F m H (ρ x) (ρc x))→ρc x=Ji q:=by intro w F m ρc hr;have r1:=hx▸hr x;unfold Rep at r1;exact r1
 split at h;refine⟨_,_,h,fun R' k'=>by simp only[evalOp,Eh,hu,hz,hx,hok],BB fun w F m ρc o hop hty hi hr=>⟨_,?_,tup w F m _ z false (hzr w F m)⟩⟩;simp[execOp,hop,hq hr,Ji,Instr.typeAssert,run_underlying hu,B' hi0 hz0];rename_i T' l;split at h;rename_i hT;refine⟨_,_,h,fun R' k'=>by simp only[evalOp,Eh,hu,hz,hx,hok,hT],BB fun w F m ρc o hop hty hi hr=>⟨_,?_,tup w F m _ (.agg (l.map fun p=>Value.int p.1 p.2).toArray) true ?_⟩⟩;simp only[AXc]at hT;simp[execOp,hop,hq hr,Ji,Instr.typeAssert,run_underlying hu,hT];unfold Rep;refine⟨_,rfl,by simpa using AOw l,fun u hu => ?_⟩;simp only[AYE]at hu;obtain⟨p,_,rfl⟩:=hu;rfl;rename_i hT;refine⟨_,_,h,fun R' k'=>by simp only[evalOp,Eh,hu,hz,hx,hok,hT],BB fun w F m ρc o hop hty hi hr=>⟨_,?_,tup w F m _ z false (hzr w F m)⟩⟩;simp only[AYM]at hT;simp[execOp,hop,hq hr,Ji,Instr.typeAssert,run_underlying hu,B' hi0 hz0,hT];grind;grind
end
end Go.Pev
end
section
namespace Go.Pev
open Go.RowKit
section
variable {P:Program} {E:Env}
theorem ABU(hE:∀ g,BV P g (E.spec g))(f:Operand)(args:Array Operand)(ts:Array TypeId):Claim P E (.call { callee:=.value f,args:=args,argTypes:=ts }):=by
 intro R ty ρ H fz slot k r h;simp only[evalOp,Jn]at h;split at h
 ·rename_i g caps hf;obtain⟨v,e,h1,h2,h3,h4⟩:=hE g R _ H fz slot k r h;refine⟨v,e,h1,fun R' k'=>by simp only[evalOp,Jn,hf];grind,?_⟩;intro w F m a o next Q hop hty hi hr hn
  have hrf:=hr f;rw[hf]at hrf;unfold Rep at hrf;obtain⟨cs,e1,e2⟩:=hrf;have hargs:BD w F m H (args.toList.map ρ++caps) ((args.map a.eval++cs).toList):=by rw[Array.toList_append,AYy];exact G8 (Dy (by simp) fun i c v hc hv=>by grind) e2
  have hcall:=h4 w F m _ hi hargs;rw[AZV]at hcall;unfold Oper.wp;have hrun:(execOp a.eval o).run P w = .ok (.enter g (args.map a.eval++cs)) w:=by simp[execOp,hop,resolve,e1,Deferred.ofValue,invoke,h3 _ w]
  rw[hrun];exact hcall.mono fun en w' ⟨u,hen,F',m',hg,hrep⟩=>by grind
 ·rename_i g caps hf;obtain⟨v,e,h1,h2,h3,h4⟩:=hE g R _ H fz slot k r h;refine⟨v,e,h1,fun R' k'=>by simp only[evalOp,Jn,hf];grind,?_⟩;intro w F m a o next Q hop hty hi hr hn
  have hrf:=hr f;rw[hf]at hrf;unfold Rep at hrf;obtain⟨cs,e1,e2⟩:=hrf;have hargs:BD w F m H (caps++args.toList.map ρ) ((cs++args.map a.eval).toList):=by rw[Array.toList_append,AYy];exact G8 e2 (Dy (by simp) fun i c v hc hv=>by grind)
  have hcall:=h4 w F m _ hi hargs;rw[AZV]at hcall;unfold Oper.wp;have hrun:(execOp a.eval o).run P w = .ok (.enter g (cs++args.map a.eval)) w:=by simp[execOp,hop,resolve,e1,Deferred.ofValue,invoke,h3 _ w]
  rw[hrun];exact hcall.mono fun en w' ⟨u,hen,F',m',hg,hrep⟩=>by grind
 grind
theorem xZ{T:TypeId}(h:AC4 P T=true):P.underlying T=some .string:=by unfold AC4 at h;grind
theorem lX{T:TypeId}(h:WM P T=true):∃ e,P.underlying T=some (.slice e)∧P.underlying e=some (.int .u8):=by unfold WM at h;grind
theorem yG{w:World}{F:Nat→Prop}:∀ {xs:List Int} {row:List Value},rows (Dat w F (.int .u8)) xs row→row=xs.map (Value.int .u8):=by
 intro xs;induction xs with
  |nil=>rintro row rfl;rfl
  |cons x xs ih=>
   rintro row ⟨c1,c2,rfl,h1,h2⟩;rw[ih h2];have h1:c1=[.int .u8 x]:=by simpa [Dat]using h1
   grind
theorem yc:∀ (xs:List Int) (s:ByteArray),bytesOf (xs.foldl (fun r n=>r.push (UInt8.ofNat n.toNat)) s)=bytesOf s++LO xs:=by
 intro xs;induction xs with
  |nil=>intro s;simp[LO]
  |cons x xs ih=>intro s;rw[AYI,ih];simp[bytesOf,LO,ByteArray.push]
theorem AQR{S T:TypeId}{x:Operand}{w:World}{F:Nat→Prop}{m:Mp}{H:List Ob}{fz:List Bool}{v:AV}{xs:List Int}{fr:List Nat}{ρc:Operand→Value}{o:Oper}(hop:o.op = .convert S T x)
  (hs:WM P S=true) (hd:AC4 P T=true) (hi:HI w F m H fz) (hx:FM H (.slice (.int .u8)) v=some (xs,fr)) (hr:Rep w F m H v (ρc x)) :
  ∃ u,(execOp ρc o).run P w = .ok (.value u) w∧Rep w F m H (.str (LO xs)) u:=by
 obtain⟨e,h1,h2⟩:=lX hs;have h3:=xZ hd;obtain⟨a,cap,e1,hle,hne,news,hrows,hcell⟩:=ER hi hx hr;cases a with
  |none=>
   have hxs:xs=[]:=by grind
   subst hxs;refine⟨.string ByteArray.empty,?_,?_⟩;simp[execOp,hop,e1,run_convert_bytes_string w S T e none _ _ h1 h2 h3,Conv.bytesToString];unfold Rep;exact⟨_,rfl,rfl⟩
  |some ad=>
   have hn:=yG hrows;subst hn;have hl:(Go.loadCells ad xs.length).run P w = .ok (xs.map (Value.int .u8)).toArray w:=by have:=run_loadCells_list (P:=P) w ad (xs.map (Value.int .u8)) (fun j v hj=>hcell ad rfl j v hj);grind
   refine⟨.string (xs.foldl (fun r n=>r.push (UInt8.ofNat n.toNat)) ByteArray.empty),?_,?_⟩;simp[execOp,hop,e1,run_convert_bytes_string w S T e (some ad) _ _ h1 h2 h3,run_bytesToString w ad _ cap xs hl];unfold Rep;exact⟨_,rfl,(yc _ _).trans (AX2 _)⟩
theorem bR(S T:TypeId)(x:Operand):Claim P E (.convert S T x):=by intro R ty ρ H fz slot k r h;simp only[evalOp,GR]at h;split at h;rename_i j' n j hx hs hk;refine⟨_,_,h,fun R' k'=>by simp only[evalOp,GR,hx,hs,hk],BB fun w F m ρc o hop hty hi hr=>⟨.int j (j.wrap n),?_,Bd _ _⟩⟩;have e1:=Bn (hx▸hr x);obtain⟨d,hd⟩:=AYc.1 hs;simp[execOp,hop,e1,convert,run_underlying hd,run_underlying (G0 hk),Conv.intToInt];rename_i v b1 b2 hne;split at h;rename_i hs hd;split at h;rename_i xs fr hx;refine⟨_,_,h,fun R' k' => ?_,BB fun w F m ρc o hop hty hi hr=>AQR hop hs hd hi hx (hr x)⟩;simp only[evalOp,GR];grind;grind;grind
theorem Pp{w:World}{F:Nat→Prop}{k:IntKind}{n:Int}{v:Value}(h:CW w F (.int k) n v):v = .int k n:=by unfold CW at h;have h:Dat w F (.int k) n [v]:=h;simpa [Dat]using h
theorem CT{w:World}{r:Nat}{ms:Array MapEntry}{clock:Nat}(h:w.heap[r]? = some (.map ms clock)):(getObj r).run P w = .ok (.map ms clock) w:=by simp[getObj,Sem.run,h]
theorem JV{kt:TypeId}{j:IntKind}(hu:P.underlying kt=some (.int j)){key:Int}{ms:List MapEntry}{w:World}{r:Option (Nat×Value)}(h:Instr.findNow (.int j) (.int j key) ms 0=some r):(Instr.findKey kt (.int j key) ms).run P w = .ok r w:=by simp[Instr.findKey,run_underlying hu,h]
theorem ew{kt:TypeId}{j:IntKind}(hu:P.underlying kt=some (.int j)){w:World}(key:Int){ks:List Int}{ms:Array MapEntry}(h:ms.toList.map (·.key)=ks.map (Value.int j)):
  (HH ks key=ks.length∧(Instr.findKey kt (.int j key) ms.toList).run P w = .ok none w) ∨
  (∃ me,HH ks key<ks.length∧ms.toList[HH ks key]? = some me∧me.key = .int j key∧ks[HH ks key]? = some key∧(Instr.findKey kt (.int j key) ms.toList).run P w = .ok (some (HH ks key,me.val)) w):=by
 have gen:∀ (ks:List Int) (ms:List MapEntry) (i:Nat),ms.map (·.key)=ks.map (Value.int j) →
   (HH ks key=ks.length∧Instr.findNow (.int j) (.int j key) ms i=some none) ∨
   (∃ me,HH ks key<ks.length∧ms[HH ks key]? = some me∧me.key = .int j key∧ks[HH ks key]? = some key∧Instr.findNow (.int j) (.int j key) ms i=some (some (i+HH ks key,me.val))):=by
  intro ks
  induction ks with
  |nil=>
   intro ms i h
   have:ms=[]:=by simp_all
   subst this
   exact .inl ⟨rfl,rfl⟩
  |cons a ks ih=>
   intro ms i h
   cases ms with
   |nil=>simp at h
   |cons me ms=>
    simp only[AX4,AXz]at h
    obtain⟨hk,h⟩:=h
    by_cases hak:a=key
    ·subst hak
     refine .inr ⟨me,by simp[HH],by simp[HH],hk,by simp[HH],?_⟩
     simp[Instr.findNow,Instr.sameNow,hk,HH]
    ·have hfn:Instr.findNow (.int j) (.int j key) (me::ms) i=Instr.findNow (.int j) (.int j key) ms (i+1):=by
      have:(key==a)=false:=by grind
      simp[Instr.findNow,Instr.sameNow,hk,this]
     have hp:HH (a::ks) key=HH ks key+1:=by simp[HH,hak]
     grind
 rcases gen ks ms.toList 0 h with⟨q0,q2⟩|⟨me,q0,q1,q2,q3,q4⟩
 exact .inl ⟨q0,JV hu q2⟩;rw[AYQ]at q4;exact .inr ⟨me,q0,q1,q2,q3,JV hu q4⟩
theorem AJu{kt:TypeId}{j:IntKind}(hu:P.underlying kt=some (.int j)){w:World}(key:Int){β:Type}{V:β→Value→Prop}{es:List (Int×β)}{ms:List MapEntry}(h:Ys (fun d v=>v = .int j d) V es ms):
  (BA es key=none∧(Instr.findKey kt (.int j key) ms).run P w = .ok none w) ∨
  (∃ (x:β) (n:Nat) (me:MapEntry),BA es key=some x∧(Instr.findKey kt (.int j key) ms).run P w = .ok (some (n,me.val)) w∧V x me.val):=by
 have gen:∀ (es:List (Int×β)) (ms:List MapEntry) (i:Nat),Ys (fun d v=>v = .int j d) V es ms →
   (BA es key=none∧Instr.findNow (.int j) (.int j key) ms i=some none) ∨
   (∃ (x:β) (n:Nat) (me:MapEntry),BA es key=some x∧Instr.findNow (.int j) (.int j key) ms i=some (some (n,me.val))∧V x me.val):=by
  intro es
  induction es with
  |nil=>rintro ms i rfl;exact .inl ⟨rfl,rfl⟩
  |cons e es ih=>
   rintro ms i ⟨me,ms',rfl,hk,hv,h3⟩
   obtain⟨a,x⟩:=e
   have hk:me.key = .int j a:=hk
   by_cases hak:a=key
   ·subst hak
    refine .inr ⟨x,i,me,by simp[BA],?_,hv⟩
    simp[Instr.findNow,Instr.sameNow,hk]
   ·have hfn:Instr.findNow (.int j) (.int j key) (me::ms') i=Instr.findNow (.int j) (.int j key) ms' (i+1):=by
     have:(key==a)=false:=by grind
     simp[Instr.findNow,Instr.sameNow,hk,this]
    rcases ih ms' (i+1) h3 with⟨q1,q2⟩|⟨y,n,me',q1,q2,q3⟩
    ·exact .inl ⟨by simp[BA,hak,q1],by grind⟩
    ·exact .inr ⟨y,n,me',by simp[BA,hak,q1],by grind,q3⟩
 rcases gen es ms 0 h with⟨q1,q2⟩|⟨x,n,me,q1,q2,q3⟩
 exact .inl ⟨q1,JV hu q2⟩;exact .inr ⟨x,n,me,q1,JV hu q2,q3⟩
theorem lQ(T:TypeId)(mm x:Operand)(ok:Bool):Claim P E (.lookup T mm x ok):=by
 intro R ty ρ H fz slot k r h;simp only[evalOp,EM]at h;split at h;rename_i kt vt id hu hm;split at h;rename_i ka b es ho;split at h;rename_i b' cs' hkt hz;split at h;rename_i key fr hb hx;simp only[AXc]at hb;subst hb;have hkt':=hkt;simp only[AXc]at hkt';have hK:=QE hkt';obtain⟨hty',hcs',i,z,hi0,hz0,hok,hsz,hza⟩:=CU hz;subst hcs'
 have main:∀ (w:World) (F:Nat→Prop) (m:Mp) (ρc:Operand→Value) (o:Oper),o.op = .lookup T mm x ok→HI w F m H fz→(∀ x,Rep w F m H (ρ x) (ρc x)) →
   ∃ u,(execOp ρc o).run P w = .ok (.value (if ok then .tuple #[u,.bool (BA (α:=ka.den) es key).isSome]else u)) w∧CW w F b' ((BA (α:=ka.den) es key).getD b'.zero) u:=by
  intro w F m ρc o hop hi hr
  have hrm:=hr mm
  rw[hm]at hrm
  unfold Rep at hrm
  rw[ho]at hrm
  obtain⟨bb,c,e1,e2⟩:=hrm
  obtain⟨b2,c',ms,clock,e3,e4,e5,_⟩:=hi.obj id _ ho
  rw[e1]at e3;cases e3
  have hkv:ρc x=Cx ka key:=(hK.rep _ _ _ _).1 (Dx hi hx (hr x))
  have hck:=hK.check w ms.isEmpty key
  rcases hK.find w F _ key es ms.toList e5 with⟨_,q1,q2⟩|⟨y,n,me,_,q1,q2,q3,q4,_⟩
  ·refine⟨z,?_,by rw[q1];exact NB hok hza⟩
   rw[q1]
   simp only[execOp,hop,e2,hkv,Instr.lookup,Sem.run_bind,run_underlying hu,Result.andThen_ok,CT e4,hck,q2,B' hi0 hz0,Sem.run_pure]
   simp
  ·refine⟨me.val,?_,by grind⟩
   rw[q1]
   simp only[execOp,hop,e2,hkv,Instr.lookup,Sem.run_bind,run_underlying hu,Result.andThen_ok,CT e4,hck,q2,Sem.run_pure]
   simp
 split at h;refine⟨_,_,h,fun R' k'=>by simp only[evalOp,EM,hu,hm,ho,hkt,hz,AXi,hx],BB fun w F m ρc o hop hty hi hr => ?_⟩;obtain⟨u,h1,h2⟩:=main w F m ρc o hop hi hr;refine⟨_,h1,?_⟩;unfold Rep;refine⟨_,rfl,?_⟩;unfold BD;refine⟨u,_,rfl,by unfold Rep;exact h2,Mz (B4 _)⟩;refine⟨_,_,h,fun R' k'=>by simp only[evalOp,EM,hu,hm,ho,hkt,hz,AXi,hx],BB fun w F m ρc o hop hty hi hr => ?_⟩;obtain⟨u,h1,h2⟩:=main w F m ρc o hop hi hr;exact⟨u,h1,by unfold Rep;exact h2⟩;grind;grind;rename_i j ks e t xs ver ho;split at h;rename_i e' t' hk hsl hz;split at h;rename_i key fr he hx;refine⟨_,_,h,fun R' k'=>by simp only[evalOp,EM,hu,hm,ho,hk,hsl,hz,he,hx],BB fun w F m ρc o hop hty hi hr => ?_⟩;simp only[AXc]at hk he;simp only[AXd,AYj,AYc]at hz;obtain⟨⟨⟨b',cs'⟩,hz⟩,rfl⟩:=hz;obtain⟨hty',hcs',i,z,hi0,hz0,hok,hsz,hza⟩:=CU hz;subst hcs';obtain⟨hu2,hty2,hpos2⟩:=Cg hsl;have htt:∃ y,b' = .slice y:=by unfold iO UR at hty';rw[hu2]at hty';simp only[AXm]at hty';grind
 obtain⟨y,rfl⟩:=htt;have hz1:z = .slice none 0 0:=by
  have h1:z.cells.toList=[.slice none 0 0]:=CN (w:=w) (F:=F) (.nul y) _ hok;cases z with
   |agg vs=>simp[Om,Ty.isAgg]at hza
   |_=>simp[Value.cells]at h1<;>first|exact h1|grind
 have hrm:=hr mm;rw[hm]at hrm;unfold Rep at hrm;rw[ho]at hrm;obtain⟨bb,c,e1,e2⟩:=hrm;obtain⟨_,e3⟩:=hi.obj id _ ho;rw[e1]at e3;obtain⟨ms,clock,e4,e5,e6,e7,_⟩:=e3;have e7:=e7.resolve_right fun h=>by cases h.1
 have hkv:ρc x = .int j key:=Pp (Dx hi hx (hr x));have hku:=G0 hk;have hck:=(QD hku).check w ms.isEmpty key;have hck:(Instr.checkKey ms.isEmpty 10000 kt (.int j key)).run P w = .ok () w:=hck;rcases ew (w:=w) hku key e6 with⟨q1,q2⟩|⟨me,q1,q2,q3,q4,q5⟩
 refine⟨.slice none 0 0,?_,?_⟩;simp only[execOp,hop,e2,hkv,Instr.lookup,Sem.run_bind,run_underlying hu,Result.andThen_ok,CT e4,hck,q2,B' hi0 hz0,Sem.run_pure,hz1];rfl;unfold Rep;rw[ho];exact⟨rfl,AXl _,fun _=>.inr ⟨rfl,by omega,rfl⟩⟩;obtain⟨b3,c3,u,r1,⟨ms',clock',en,r2,r3,r4⟩,r5⟩:=pZ hi ho (k:=HH ks key) (by omega);rw[e1]at r1;cases r1;rw[e4]at r2;cases r2;rw[q2]at r3;cases r3;subst r4;refine⟨me.val,?_,r5⟩;simp only[execOp,hop,e2,hkv,Instr.lookup,Sem.run_bind,run_underlying hu,Result.andThen_ok,CT e4,hck,q5,Sem.run_pure];rfl;grind;grind;grind;rename_i kt vt j b es hu hm;split at h;rename_i b' cs' hk hz;split at h;rename_i key fr hb hx;have hb0:=hb;have hk0:=hk;simp only[AXd,AXc,AYj]at hb;simp only[AXc]at hk;obtain⟨hb,hag⟩:=hb;subst hb;obtain⟨hty',hcs',i,z,hi0,hz0,hok,hsz,hza⟩:=CU hz;subst hcs';have hku:=G0 hk
 have main:∀ (w:World) (F:Nat→Prop) (m:Mp) (ρc:Operand→Value) (o:Oper),o.op = .lookup T mm x ok→HI w F m H fz→(∀ x,Rep w F m H (ρ x) (ρc x)) →
   ∃ u,(execOp ρc o).run P w = .ok (.value (if ok then .tuple #[u,.bool (BA (α:=Int) es key).isSome]else u)) w∧CW w F b' ((BA (α:=Int) es key).getD b'.zero) u:=by
  intro w F m ρc o hop hi hr
  have hrm:=hr mm
  rw[hm]at hrm
  have hrm:Dat w F (.mapi j b') es [ρc mm]:=hrm
  obtain⟨bb,ms,clock,e2,e3,e4,e5⟩:=hrm
  simp only[AXz,AZv]at e2
  have hkv:ρc x = .int j key:=Pp (Dx hi hx (hr x))
  have hck:=(QD hku).check w ms.isEmpty key
  have hck:(Instr.checkKey ms.isEmpty 10000 kt (.int j key)).run P w = .ok () w:=hck
  rcases AJu (w:=w) hku key e5 with⟨q1,q2⟩|⟨y,n,me,q1,q2,q4⟩
  ·refine⟨z,?_,by rw[q1];exact NB hok hza⟩
   rw[q1]
   simp only[execOp,hop,e2,hkv,Instr.lookup,Sem.run_bind,run_underlying hu,Result.andThen_ok,CT e4,hck,q2,B' hi0 hz0,Sem.run_pure]
   simp
  ·refine⟨me.val,?_,by rw[q1];unfold CW;grind⟩
   rw[q1]
   simp only[execOp,hop,e2,hkv,Instr.lookup,Sem.run_bind,run_underlying hu,Result.andThen_ok,CT e4,hck,q2,Sem.run_pure]
   simp
 split at h;refine⟨_,_,h,fun R' k'=>by simp only[evalOp,EM,hu,hm,hk0,hz,AXi,hag,AYL,AYb,hx],BB fun w F m ρc o hop hty hi hr => ?_⟩;obtain⟨u,h1,h2⟩:=main w F m ρc o hop hi hr;refine⟨_,h1,?_⟩;unfold Rep;refine⟨_,rfl,?_⟩;unfold BD;refine⟨u,_,rfl,by unfold Rep;exact h2,Mz (B4 _)⟩;refine⟨_,_,h,fun R' k'=>by simp only[evalOp,EM,hu,hm,hk0,hz,AXi,hag,AYL,AYb,hx],BB fun w F m ρc o hop hty hi hr => ?_⟩;obtain⟨u,h1,h2⟩:=main w F m ρc o hop hi hr;exact⟨u,h1,by unfold Rep;exact h2⟩;grind;grind;grind
theorem Dm{w:World}{r:Nat}{ms ms':Array MapEntry}{clock clock':Nat}(h:w.heap[r]? = some (.map ms clock)):
  (setObj r (.map ms' clock')).run P w = .ok () { w with heap:=w.heap.setIfInBounds r (.map ms' clock') }:=by simp[setObj,Sem.run,h]
theorem GY.push{ms:Array MapEntry}{clock:Nat}(h:GY ms clock)(key val:Value):GY (ms.push { key:=key,val:=val,born:=clock }) (clock+1):=by obtain⟨h1,h2⟩:=h;refine⟨by grind,fun i e he => ?_⟩;grind
theorem GY.modify{ms:Array MapEntry}{clock:Nat}(h:GY ms clock)(n:Nat){f:MapEntry→MapEntry}(hf:∀ e,(f e).born=e.born):GY (ms.modify n f) clock:=by obtain⟨h1,h2⟩:=h;refine⟨by grind,fun i e he => ?_⟩;grind
theorem VQ(T:TypeId)(mm x y:Operand):Claim P E (.mapUpdate T mm x y):=by
 intro R ty ρ H fz slot k r h
 simp only[evalOp,FJ]at h
 split at h
 ·rename_i kt vt id hu hm
  split at h
  ·rename_i ka b es ho
   split at h
   ·rename_i key fr0 val fr hkt hx hy
    refine⟨_,_,h,fun R' k'=>by simp only[evalOp,FJ,hu,hm,ho,hkt,hx,hy],Ef fun w F m ρc o hop hty hi hr => ?_⟩
    have hkt':=hkt
    simp only[AXc]at hkt'
    have hK:=QE hkt'
    have hgf:=BQ.freeze hi fr
    have hrm:=hr mm
    rw[hm]at hrm
    unfold Rep at hrm
    rw[ho]at hrm
    obtain⟨bb,c,e1,e2⟩:=hrm
    obtain⟨b2,c',ms,clock,e3,e4,e5,e6⟩:=hgf.2.obj id _ ho
    rw[e1]at e3;cases e3
    have hkv:ρc x=Cx ka key:=(hK.rep _ _ _ _).1 (Dx hi hx (hr x))
    have hvd:=Dx hi hy (hr y)
    have hck:=hK.check w false key
    have hst:=hK.stays w key
    have hlt:=CG e4
    have main:∀ (ms':Array MapEntry) (clock':Nat),I2 w (Ds F m H fr) ka b (BP (α:=ka.den) es key val) ms'.toList→GY ms' clock' →
      BQ w (Ds F m H fr) m H (BI fr fz) { w with heap:=w.heap.setIfInBounds bb (.map ms' clock') } (Ds F m H fr) m (H.set id (.map ka b (BP (α:=ka.den) es key val))) (BI fr fz):=by
     intro ms' clock' he hbo
     refine BQ.set hgf.2 (FF ho) e1 ho trivial rfl rfl rfl (by simp) (fun k hk=>by grind) fun _ => ?_
     refine⟨bb,c,ms',clock',e1,by grind,?_,hbo⟩
     refine he.mono (fun a ha => ?_) (fun _ h=>h)
     have:a≠bb:=by rintro rfl;exact hgf.2.off id _ c (FF ho) e1 ha
     grind
    obtain⟨s1,s2⟩:=hK.store key val _ hvd e5
    rcases hK.find w _ _ key es ms.toList e5 with⟨q1,_,q2⟩|⟨y',n,me,q1,_,q2,q3,q4,q5⟩
    ·have hg:=main (ms.push { key:=Cx ka key,val:=ρc y,born:=clock }) (clock+1) (by grind) (e6.push _ _)
     refine⟨_,_,m,?_,hgf.trans hg⟩
     simp only[execOp,hop,e2,hkv,Instr.mapUpdate,Sem.run_bind,run_underlying hu,Result.andThen_ok,CT e4,hck,q2,Dm e4,Sem.run_pure]
    ·have hg:=main (ms.modify n fun e=>{ e with key:=Cx ka key,val:=ρc y }) clock (by grind) (e6.modify _ fun _=>rfl)
     refine⟨_,_,m,?_,hgf.trans hg⟩
     have hgetn:ms[n]? = some me:=by grind
     have hold:(((ms[n]?).map (·.key)).getD (Cx ka key))=Cx ka key:=by grind
     simp only[execOp,hop,e2,hkv,Instr.mapUpdate,Sem.run_bind,run_underlying hu,Result.andThen_ok,CT e4,hck,q2,hold,hst,Dm e4,Sem.run_pure]
   grind
  ·rename_i j ks e t xs ver i' ho
   split at h
   ·rename_i key fr id' i ver' hk hx hy
    split at h
    ·rename_i hid
     split at h
     ·rename_i hii
      refine⟨_,_,h,fun R' k'=>by simp only[evalOp,FJ,hu,hm,ho,hk,hx,hy,hid,hii],Ef fun w F m ρc o hop hty hi hr => ?_⟩
      simp only[AXd,AXc]at hk hid
      obtain⟨hk,hun⟩:=hk
      obtain⟨rfl,rfl⟩:=hid
      simp only[AXd,D_,AY1]at hii
      obtain⟨h1,h2⟩:=hii
      have h1:i=i':=by omega
      have h2:HH ks key=i':=by omega
      subst h1
      have hun':fz.getD id false=false:=by unfold BJ at hun;grind
      have hrm:=hr mm
      rw[hm]at hrm
      unfold Rep at hrm
      rw[ho]at hrm
      obtain⟨bb,c,e1,e2⟩:=hrm
      obtain⟨_,e3⟩:=hi.obj id _ ho
      rw[e1]at e3
      obtain⟨ms,clock,e4,e5,e6,e7,e8⟩:=e3
      have hkv:ρc x = .int j key:=Pp (Dx hi hx (hr x))
      have hku:=G0 hk
      have hck:(Instr.checkKey false 10000 kt (.int j key)).run P w = .ok () w:=(QD hku).check w false key
      have hst:(Instr.keyThatStays (.int j key) (.int j key)).run P w = .ok (.int j key) w:=(QD hku).stays w key
      have hry:=hr y
      rw[hy]at hry
      unfold Rep at hry
      rw[ho]at hry
      obtain⟨hone,_,h7⟩:=hry
      have h7:=h7 rfl
      have hlt:=CG e4
      have hmk:ms.toList.length=ks.length:=by have:=AYh List.length e6;grind
      obtain⟨ys,hys,hrep⟩:∃ ys:List t.den,xs[i]? = some ys∧Bq (some (.arr 0 t ys)) (m (.r id i)) (ρc y):=by
       grind
      have main:∀ (ms':Array MapEntry) (clock':Nat),GY ms' clock'→ms'.toList.map (·.key)=(VJ ks i key).map (Value.int j)→xs.length=(VJ ks i key).length→(∃ en,ms'.toList[i]? = some en∧en.val=ρc y)→(∀ k' en,k'≠i→ms.toList[k']? = some en→∃ en',ms'.toList[k']? = some en'∧en'.val=en.val) →
        BQ w F m H fz { w with heap:=w.heap.setIfInBounds bb (.map ms' clock') } F m (H.set id (.rows (.map j (VJ ks i key)) e t xs ver none)) fz:=by
       intro ms' clock' hbo hks hxl hat hoth
       refine BQ.AWs hi ho hun' hys rfl e1 hrep rfl rfl rfl (by simp) (fun k hk=>by grind) (fun _=>⟨⟨ms',clock',by grind,hbo,hks,.inl hxl,fun k h=>by cases h⟩,?_⟩) ?_
       ·obtain⟨en,q1,q2⟩:=hat
        exact⟨ms',clock',en,by grind,q1,q2⟩
       ·rintro k' v hne ⟨ms2,clock2,en,q1,q2,q3⟩
        rw[e4]at q1;cases q1
        obtain⟨en',q4,q5⟩:=hoth k' en hne q2
        exact⟨ms',clock',en',by grind,q4,q5.trans q3⟩
      rcases ew (w:=w) hku key e6 with⟨q1,q2⟩|⟨me,q1,q2,q3,q4,q5⟩
      ·have hxl:xs.length=ks.length+1:=by
        grind
       have hdp:VJ ks i key=ks++[key]:=by unfold VJ;grind
       have hg:=main (ms.push { key:=.int j key,val:=ρc y,born:=clock }) (clock+1) (e5.push _ _) (by grind) (by grind)
        ⟨_,by rw[Array.toList_push,AYF (by omega),show i-ms.toList.length=0 from by omega];rfl,rfl⟩
        (fun k' en hne hk'=>⟨en,by grind,rfl⟩)
       refine⟨_,F,m,?_,hg⟩
       simp only[execOp,hop,e2,hkv,Instr.mapUpdate,Sem.run_bind,run_underlying hu,Result.andThen_ok,CT e4,hck,q2,Dm e4,Sem.run_pure]
      ·have hilt:i<ks.length:=by omega
       have hxl:xs.length=ks.length:=by
        grind
       have hdp:VJ ks i key=ks:=by
        unfold VJ
        rw[AXp hilt]
        apply AZT
        grind
       rw[h2]at q2 q5
       have hgetn:ms[i]? = some me:=by grind
       have hg:=main (ms.modify i fun e=>{ e with key:=.int j key,val:=ρc y }) clock (e5.modify _ fun _=>rfl) (by
         rw[hdp,← e6,Array.toList_modify]
         apply AZT
         grind) (by grind)
        ⟨_,by rw[Array.toList_modify,List.getElem?_modify,q2];simp only[AX9];rfl,rfl⟩
        (fun k' en hne hk'=>⟨en,by grind,rfl⟩)
       refine⟨_,F,m,?_,hg⟩
       have hold:(((ms[i]?).map (·.key)).getD (.int j key)) = .int j key:=by grind
       simp only[execOp,hop,e2,hkv,Instr.mapUpdate,Sem.run_bind,run_underlying hu,Result.andThen_ok,CT e4,hck,q5,hold,hst,Dm e4,Sem.run_pure]
     grind
    grind
   grind
  grind
 grind
theorem lR(T:TypeId)(mm x y:Operand):Claim P E (.insert T mm x y):=by
 intro R ty ρ H fz slot k r h;simp only[evalOp,Md]at h;split at h;rename_i kt vt id hu hm;split at h;rename_i ka b es ho;split at h;rename_i key fr0 val fr hkt hx hy;refine⟨_,_,h,fun R' k'=>by simp only[evalOp,Md,hu,hm,ho,hkt,hx,hy],Ef fun w F m ρc o hop hty hi hr => ?_⟩;have hkt':=hkt;simp only[AXc]at hkt';have hK:=QE hkt';have hgf:=BQ.freeze hi fr;have hrm:=hr mm;rw[hm]at hrm;unfold Rep at hrm;rw[ho]at hrm;obtain⟨bb,c,e1,e2⟩:=hrm;obtain⟨b2,c',ms,clock,e3,e4,e5,e6⟩:=hgf.2.obj id _ ho;rw[e1]at e3;cases e3;have hkv:ρc x=Cx ka key:=(hK.rep _ _ _ _).1 (Dx hi hx (hr x));have hvd:=Dx hi hy (hr y);have hck:=hK.check w false key;have hst:=hK.stays w key;have hlt:=CG e4
 have main:∀ (ms':Array MapEntry) (clock':Nat),I2 w (Ds F m H fr) ka b (BP (α:=ka.den) es key val) ms'.toList→GY ms' clock' →
   BQ w (Ds F m H fr) m H (BI fr fz) { w with heap:=w.heap.setIfInBounds bb (.map ms' clock') } (Ds F m H fr) m (H.set id (.map ka b (BP (α:=ka.den) es key val))) (BI fr fz):=by
  intro ms' clock' he hbo
  refine BQ.set hgf.2 (FF ho) e1 ho trivial rfl rfl rfl (by simp) (fun k hk=>by grind) fun _ => ?_
  refine⟨bb,c,ms',clock',e1,by grind,?_,hbo⟩
  refine he.mono (fun a ha => ?_) (fun _ h=>h)
  have:a≠bb:=by rintro rfl;exact hgf.2.off id _ c (FF ho) e1 ha
  grind
 obtain⟨s1,s2⟩:=hK.store key val _ hvd e5;rcases hK.find w _ _ key es ms.toList e5 with⟨q1,_,q2⟩|⟨y',n,me,q1,_,q2,q3,q4,q5⟩
 have hg:=main (ms.push { key:=Cx ka key,val:=ρc y,born:=clock }) (clock+1) (by grind) (e6.push _ _);refine⟨_,_,m,?_,hgf.trans hg⟩;simp only[execOp,hop,e2,hkv,Instr.mapUpdate,Sem.run_bind,run_underlying hu,Result.andThen_ok,CT e4,hck,q2,Dm e4,Sem.run_pure];have hg:=main (ms.modify n fun e=>{ e with key:=Cx ka key,val:=ρc y }) clock (by grind) (e6.modify _ fun _=>rfl);refine⟨_,_,m,?_,hgf.trans hg⟩;have hgetn:ms[n]? = some me:=by grind
 have hold:(((ms[n]?).map (·.key)).getD (Cx ka key))=Cx ka key:=by grind
 simp only[execOp,hop,e2,hkv,Instr.mapUpdate,Sem.run_bind,run_underlying hu,Result.andThen_ok,CT e4,hck,q2,hold,hst,Dm e4,Sem.run_pure];grind;grind;grind
theorem jy{ms:Array MapEntry}{n:Nat}{me:MapEntry}(h:ms[n]? = some me){f g:MapEntry→MapEntry}(he:f me=g me):ms.modify n f=ms.modify n g:=by grind
theorem ZB(T:TypeId)(mm x:Operand):Claim P E (.mapEntry T mm x):=by
 intro R ty ρ H fz slot k r h;simp only[evalOp,GQ]at h;split at h;rename_i kt vt id hu hm;split at h;rename_i ka b es ho;split at h;rename_i b' cs' key fr hkt hz hx;split at h;rename_i hb;simp only[AXc]at hb;subst hb;refine⟨_,_,h,fun R' k'=>by simp only[evalOp,GQ,hu,hm,ho,hkt,hz,hx,AXi],Bm fun w F m ρc o hop hty hi hr => ?_⟩;have hkt':=hkt;simp only[AXc]at hkt';have hK:=QE hkt';obtain⟨hty',hcs',i,z,hi0,hz0,hok,hsz,hza⟩:=CU hz;subst hcs';have hrm:=hr mm;rw[hm]at hrm;unfold Rep at hrm;rw[ho]at hrm;obtain⟨bb,c,e1,e2⟩:=hrm;obtain⟨b2,c',ms,clock,e3,e4,e5,e6⟩:=hi.obj id _ ho;rw[e1]at e3;cases e3;have hkv:ρc x=Cx ka key:=(hK.rep _ _ _ _).1 (Dx hi hx (hr x));have hck:=hK.check w false key;have hst:=hK.stays w key;have hlt:=CG e4
 have main:∀ (val:b'.den) (ms':Array MapEntry) (clock':Nat),I2 w F ka b' (BP (α:=ka.den) es key val) ms'.toList→GY ms' clock' →
   BQ w F m H fz { w with heap:=w.heap.setIfInBounds bb (.map ms' clock') } F m (H.set id (.map ka b' (BP (α:=ka.den) es key val))) fz:=by
  intro val ms' clock' he hbo
  refine BQ.set hi (FF ho) e1 ho trivial rfl rfl rfl (by simp) (fun k hk=>by grind) fun _ => ?_
  refine⟨bb,c,ms',clock',e1,by grind,?_,hbo⟩
  refine he.mono (fun a ha => ?_) (fun _ h=>h)
  have:a≠bb:=by rintro rfl;exact hi.off id _ c (FF ho) e1 ha
  grind
 have tup:∀ (d:b'.den) (u:Value) (n:Nat),CW w F b' d u→Rep w F m H (.tup [.data b' d,.data (.int .i64) (n:Int)]) (.tuple #[u,goInt (n:Int)]):=by intro d u n hd;unfold Rep;refine⟨_,rfl,?_⟩;unfold BD;exact⟨u,_,rfl,by unfold Rep;exact hd,Mz (Bd _ _)⟩
 have hlen:=Yr e5;rcases hK.find w _ _ key es ms.toList e5 with⟨q1,q0,q2⟩|⟨y',n,me,q1,q0,q2,q3,q4,q5⟩
 obtain⟨s1,_⟩:=hK.store key b'.zero z (NB hok hza) e5;have hg:=main b'.zero (ms.push { key:=Cx ka key,val:=z,born:=clock }) (clock+1) (by grind) (e6.push _ _);have hp:aT (α:=ka.den) es key=(clock:Int):=by unfold aT;rw[q1,e6.1];grind
 rw[q0,Option.getD_none,hp];refine⟨_,_,F,m,?_,hg,hg.1.rep hi (tup b'.zero z clock (NB hok hza))⟩;simp only[execOp,hop,e2,hkv,Instr.mapEntry,Sem.run_bind,run_underlying hu,Result.andThen_ok,CT e4,hck,q2,B' hi0 hz0,Dm e4,Sem.run_pure];obtain⟨_,s2⟩:=hK.store key y' me.val q4 e5;have hgetn:ms[n]? = some me:=by grind
 have hmod:(ms.modify n fun e=>{ e with key:=Cx ka key,val:=me.val })=ms.modify n fun e=>{ e with key:=Cx ka key }:=jy hgetn rfl;have hg:=main y' (ms.modify n fun e=>{ e with key:=Cx ka key,val:=me.val }) clock (by grind) (e6.modify _ fun _=>rfl);rw[hmod]at hg;have hp:aT (α:=ka.den) es key=(n:Int):=by unfold aT;grind
 rw[q0,AX5,hp];have hold:(((ms[n]?).map (·.key)).getD (Cx ka key))=Cx ka key:=by grind
 have hbn:(((ms[n]?).map fun x=>(x.born:Int)).getD 0)=(n:Int):=by rw[hgetn];show(me.born:Int)=n;rw[e6.2 n me hgetn]
 refine⟨_,_,F,m,?_,hg,hg.1.rep hi (tup y' me.val n q4)⟩;simp only[execOp,hop,e2,hkv,Instr.mapEntry,Sem.run_bind,run_underlying hu,Result.andThen_ok,CT e4,hck,q2,hold,hst,hbn,Dm e4,Sem.run_pure];grind;grind;grind;grind
theorem APy{w:World}{F:Nat→Prop}{a b:Ty}(val:b.den)(v:Value)(hv:CW w F b val v):∀ {es:List (a.den×b.den)} {ms:List MapEntry} (n:Nat),I2 w F a b es ms→I2 w F a b (es.modify n fun e=>(e.1,val)) (ms.modify n fun e=>{ e with val:=v }):=by
 intro es;induction es with
  |nil=>rintro ms n rfl;cases n<;>rfl
  |cons e es ih=>
   rintro ms n ⟨me,ms',rfl,⟨h1,h2⟩,h3⟩;cases n with
    |zero=>exact⟨_,ms',rfl,⟨h1,hv⟩,h3⟩
    |succ n=>exact⟨me,_,rfl,⟨h1,h2⟩,ih n h3⟩
theorem AJv{ms:Array MapEntry}{clock:Nat}(h:GY ms clock){i:Nat}(hi:i<ms.size):ms.findIdx? (fun e=>(e.born:Int)==(i:Int))=some i:=by rw[Array.findIdx?_eq_some_iff_getElem];refine⟨hi,?_,fun j hj => ?_⟩;have:=h.2 i ms[i] (by simp[hi]);grind;have:=h.2 j ms[j] (by simp);grind
theorem Sn(T:TypeId)(mm s y:Operand):Claim P E (.entryStore T mm s y):=by
 intro R ty ρ H fz slot k r h;simp only[evalOp,Ff]at h;split at h
 ·rename_i id i0 hm hs;split at h
  ·rename_i ka b es ho;split at h
   ·rename_i val fr hy;split at h;rotate_left;cases h;rename_i hc;refine⟨_,_,h,fun R' k'=>by simp only[evalOp,Ff,hm,hs,ho,hy,hc],Ef fun w F m ρc o hop hty hi hr => ?_⟩;have hgf:=BQ.freeze hi fr;have hrm:=hr mm;rw[hm]at hrm;unfold Rep at hrm;rw[ho]at hrm;obtain⟨bb,c,e1,e2⟩:=hrm;obtain⟨b2,c',ms,clock,e3,e4,e5,e6⟩:=hgf.2.obj id _ ho;rw[e1]at e3;cases e3;have hrs:=hr s;rw[hs]at hrs;unfold Rep at hrs;have hsv:=Pp hrs;have hvd:=Dx hi hy (hr y);have hlt:=CG e4;have hlen:=Yr e5;rw[AX0]at hlen;rw[AXd,BZ,BM,AZM,AZM]at hc;obtain⟨n,rfl⟩:=AXr hc.1;have hn:n<ms.size:=by have:=hc.2;unfold A4 at this;omega
    have hfi:=AJv e6 hn;have hg:BQ w (Ds F m H fr) m H (BI fr fz) { w with heap:=w.heap.setIfInBounds bb (.map (ms.modify n fun e=>{ e with val:=ρc y }) clock) } (Ds F m H fr) m (H.set id (.map ka b (AIp es (n:Int) val))) (BI fr fz):=by
     refine BQ.set hgf.2 (FF ho) e1 ho trivial rfl rfl rfl (by simp) (fun k hk=>by grind) fun _ => ?_;refine⟨bb,c,ms.modify n fun e=>{ e with val:=ρc y },clock,e1,by grind,?_,e6.modify n fun _=>rfl⟩;have he:I2 w (Ds F m H fr) ka b (es.modify n fun e=>(e.1,val)) (ms.modify n fun e=>{ e with val:=ρc y }).toList:=by rw[Array.toList_modify];exact APy val (ρc y) hvd n e5
     unfold AIp;rw[AYG];refine he.mono (fun a ha => ?_) (fun _ h=>h);have:a≠bb:=by rintro rfl;exact hgf.2.off id _ c (FF ho) e1 ha
     grind
    refine⟨_,_,m,?_,hgf.trans hg⟩;simp only[execOp,hop,e2,hsv,Instr.entryStore,Sem.run_bind,Result.andThen_ok,CT e4,asInt,asIntOf,Sem.run_pure,hfi,Dm e4]
   grind
  grind
 grind
theorem Eg(hE:∀ g,BV P g (E.spec g))(o:Op):Claim P E o:=by
 cases o with
  |move x=>exact ABS x
  |assign x=>exact lS x
  |pick c a b=>exact ABR c a b
  |alloc T=>exact tZ T
  |box T x=>exact AKm T x
  |build T parts=>exact tX T parts
  |buildSlice T len parts=>exact So T len parts
  |load T x=>exact ABT T x
  |store T x y=>exact tT T x y
  |nilCheck x=>exact ZA x
  |binOp op T x y T'=>exact tY op T x y T'
  |unOp op T x=>exact ABQ op T x
  |convert S T x=>exact bR S T x
  |makeFunc fn first cs=>exact ZC fn first cs
  |makeMap T r=>exact bP T r
  |makeSlice T x y=>exact VR T x y
  |slice T x lo up mx=>
   cases mx with
    |none=>exact Sm T x lo up
    |some mx=>exact VP T x lo up mx
  |fieldAddr T x f=>exact VT T x f
  |field T x f=>exact tV T x f
  |indexAddr T x y=>exact VS T x y
  |index T x y=>exact tU T x y
  |lookup T m x ok=>exact lQ T m x ok
  |mapUpdate T m x y=>exact VQ T m x y
  |insert T m x y=>exact lR T m x y
  |mapEntry T m x=>exact ZB T m x
  |entryStore T m s y=>exact Sn T m s y
  |extract x i=>exact bQ x i
  |makeInterface T x=>exact Nq T x
  |typeAssert x T T' ok=>exact Sl x T T' ok
  |call c=>
   obtain⟨callee,args,ts⟩:=c;cases callee with
    |value f=>exact ABU hE f args ts
    |invoke r n=>intro R ty ρ H fz slot k r h;simp[evalOp,Jn]at h
    |builtin b=>
     cases b with
      |len=>exact AKk args ts
      |append=>exact lT args ts
      |cap=>exact AKl args ts
      |min=>exact AKi args ts
      |max=>exact AKj args ts
      |clear=>exact tW args ts
      |_=>intro R ty ρ H fz slot k r h;simp[evalOp,Hb]at h
  |_=>intro R ty ρ H fz slot k r h;simp[evalOp,Hb]at h
end
end Go.Pev
end
section
namespace Go.Pev
open Go.RowKit
class DfI where
 d:List Deferred
instance noDf:DfI:=⟨[]⟩
structure SI[DfI](w:World)(F:Nat→Prop)(m:Mp)(st:St)(a:Act):Prop where
 tmps:∀ t,Rep w F m st.heap (st.tmps.f t) (a.tmps.getD t undef)
 size:st.tmps.n=a.tmps.size
 heap:HI w F m st.heap st.frz
 defers:a.defers=DfI.d
def AUX[DfI]{R:Type}(r:R)(k:St→Option R)(w:World)(F:Nat→Prop)(m:Mp)(H:List Ob)(fz:List Bool)(a':Act)(w':World):Prop:=
 ∃ st' F' m',k st'=some r∧SI w' F' m' st' a'∧Ext w F m H fz w' F' m' st'.heap st'.frz
section
variable [DfI] {P:Program} {E:Env} {R:Type} {r:R}
theorem SI.put{w:World}{F:Nat→Prop}{m:Mp}{st:St}{a:Act}(h:SI w F m st a){v:AV}{u:Value}(hr:Rep w F m st.heap v u)(d:Option Tmp):SI w F m (st.put d v) (a.put d u):=by
 cases d with
  |none=>exact h
  |some d=>refine⟨fun t => ?_,by simp[St.put,Tm.set,Act.put,h.size],h.heap,h.defers⟩;simp only[St.put,Act.put,Tm.TG];have:=h.tmps t;rw[AX6]at this ⊢;by_cases htd:t=d;subst htd;by_cases hlt:t<st.tmps.n;have hlt':t<a.tmps.size:=h.size▸hlt;grind;have hlt':¬ t<a.tmps.size:=h.size▸hlt;grind;grind
theorem SI.go{w w':World}{F F':Nat→Prop}{m m':Mp}{st:St}{a:Act}(h:SI w F m st a){e:Eff}(hg:BQ w F m st.heap st.frz w' F' m' (Cy e st.heap) (Ev e st.frz)):SI w' F' m' (st.app e) a:=
 ⟨fun t=>hg.1.rep h.heap (h.tmps t),h.size,hg.2,h.defers⟩
theorem SI.lit{w:World}{F:Nat→Prop}{m:Mp}{st:St}{a:Act}(h:SI w F m st a){d:Nat}{b:Bool}(hd:st.tmps.f d = .data .bool b):SI w F m { st with tmps:=st.tmps.set d (.data .bool b) } a:=by rw[Tm.Lx hd];exact h
theorem OF{w:World}{F:Nat→Prop}{m:Mp}{st:St}{a:Act}(h:SI w F m st a){ops:Array Oper}{j d:Nat}(hj:(ops.toList[j]?).bind (·.dst)=some d){b:Bool}(hd:st.tmps.f d = .data .bool b):
  yielded ops a.tmps j=some b:=by
 have hr:=h.tmps d;rw[hd]at hr;have hb:=Da hr;have hlt':d<a.tmps.size:=by rcases AZd d a.tmps.size with h'|h';exact h';rw[AX6,Array.getElem?_eq_none h']at hb;cases hb
 rw[AX6,AYt hlt']at hb;simp only[AX5]at hb;have hj':(ops[j]?).bind (·.dst)=some d:=by grind
 unfold yielded;grind
theorem Pc{w:World}{F:Nat→Prop}{m:Mp}{H:List Ob}:Rep w F m H CK undef:=by unfold CK Rep;exact⟨#[],rfl,by unfold BD;rfl⟩
theorem PJ{w:World}{F:Nat→Prop}{m:Mp}{st:St}{a:Act}(h:SI w F m st a){ops:Array Oper}{j d:Nat}(hj:(ops.toList[j]?).bind (·.dst)=some d)(hd:st.tmps.f d = .tup []):
  yielded ops a.tmps j=none:=by
 have hr:=h.tmps d;rw[hd]at hr;have hj':(ops[j]?).bind (·.dst)=some d:=by grind
 unfold yielded;rw[hj'];unfold Rep at hr;obtain⟨us,e,_⟩:=hr;rcases AZd d a.tmps.size with hlt'|hge;all_goals simp_all
theorem O6{w:World}{F:Nat→Prop}{m:Mp}{st:St}{a:Act}(h:SI w F m st a){ops:Array Oper}{o:Oper}{yes no:St→Option R}(hg:guarded R ops.toList o.guard st yes no=some r):
  ∃ st',SI w F m st' a∧st'.heap=st.heap∧st'.frz=st.frz∧((Region.wanted o (yielded ops a.tmps)=true∧yes st'=some r)∨(Region.wanted o (yielded ops a.tmps)=false∧no st'=some r)):=by unfold guarded at hg;split at hg;rename_i hgd;exact⟨st,h,rfl,rfl,.inl ⟨by simp[Region.wanted,hgd],hg⟩⟩;rename_i j want hgd;split at hg;cases hg;rename_i d hj;split at hg;rename_i b hd;have hy:=OF h hj hd;split at hg;split at hg;exact⟨_,h.lit hd,rfl,rfl,.inl ⟨by simp[Region.wanted,hgd,hy],hg⟩⟩;exact⟨_,h.lit hd,rfl,rfl,.inr ⟨by simp[Region.wanted,hgd,hy],hg⟩⟩;split at hg;exact⟨_,h.lit hd,rfl,rfl,.inr ⟨by simp[Region.wanted,hgd,hy],hg⟩⟩;exact⟨_,h.lit hd,rfl,rfl,.inl ⟨by simp[Region.wanted,hgd,hy],hg⟩⟩;rename_i hd;exact⟨st,h,rfl,rfl,.inr ⟨by simp[Region.wanted,hgd,PJ h hj hd],hg⟩⟩;grind
theorem AIJ(hE:∀ g,BV P g (E.spec g)){ops:Array Oper}{Q:Exit→Act→World→Prop}{k:St→Option R}:∀ (rest pre:List Oper) (slot:Nat) (st:St) (w:World) (F:Nat→Prop) (m:Mp) (a:Act),ops.toList=pre++rest →
  FQ P E R ops.toList rest slot st k=some r→SI w F m st a→(∀ a' w',AUX r k w F m st.heap st.frz a' w'→Q .normal a' w')→wpOps P ops Q (List.range' pre.length rest.length) a w:=by
 intro rest;induction rest with
  |nil=>intro pre slot st w F m a _ h hs hq;exact hq a w ⟨st,F,m,h,hs,Ext.refl ..⟩
  |cons o rest ih=>
   intro pre slot st w F m a hops h hs hq;simp only[FQ]at h;have hget:ops[pre.length]? = some o:=by rw[← AYY,hops];simp
   have hops':ops.toList=(pre++[o])++rest:=by grind
   have hlen:(pre++[o]).length=pre.length+1:=by simp
   rw[AXg,AYz];simp only[wpOps,hget];obtain⟨st',hs',e1,e2,hh⟩:=O6 hs h;rcases hh with⟨hw,hy⟩|⟨hw,hn⟩
   rw[AXp hw];left;obtain⟨v,e,h1,_,h3⟩:=Eg hE o.op R _ _ _ _ _ _ _ hy;refine h3 w F m a o _ Q rfl rfl hs'.heap (fun x=>Et hs'.tmps x) fun u w' F' m' hg hr => ?_;have hs2:=(hs'.go hg).put hr o.dst;have:=ih (pre++[o]) _ _ w' F' m' (a.put o.dst u) hops' h1 hs2 fun a' w'' ⟨st2,F2,m2,q1,q2,q3⟩=>hq a' w'' ⟨st2,F2,m2,q1,q2,by
    have hx:=hg.1;rw[e1,e2]at hx;refine hx.trans ?_;have:((st'.app e).put o.dst v).heap=Cy e st.heap∧((st'.app e).put o.dst v).frz=Ev e st.frz:=by cases o.dst<;>simp[St.put,St.app,e1,e2]
    grind⟩
   grind;rw[AXo (by simp[hw])];have hs2:SI w F m (st'.put o.dst CK) (a.put o.dst undef):=hs'.put Pc o.dst;have:=ih (pre++[o]) _ _ w F m (a.put o.dst undef) hops' hn hs2 fun a' w'' ⟨st2,F2,m2,q1,q2,q3⟩=>hq a' w'' ⟨st2,F2,m2,q1,q2,by
    have:(st'.put o.dst CK).heap=st.heap∧(st'.put o.dst CK).frz=st.frz:=by cases o.dst<;>simp[St.put,e1,e2]
    grind⟩
   grind
theorem HI.pad{w:World}{F:Nat→Prop}{m:Mp}{H:List Ob}{fz:List Bool}(hi:HI w F m H fz)(n:Nat):BQ w F m H fz w F m (H++List.replicate n .free) (fz++List.replicate n false):=by
 have hget:∀ i o,H[i]? = some o→(H++List.replicate n Ob.free)[i]? = some o:=fun i o h=>by rw[AYu (BU h)];exact h
 have hget':∀ i o,(H++List.replicate n Ob.free)[i]? = some o→H[i]? = some o∨o=Ob.free:=fun i o h=>by rcases AZd i H.length with hl|hl;rw[AYu hl]at h;exact .inl h;grind
 have hfz:∀ i,(fz++List.replicate n false).getD i false=fz.getD i false:=fun i=>by grind
 have hown:∀ i:Ix,owned (H++List.replicate n .free) (fz++List.replicate n false) i→owned H fz i:=fun i ho=>by
  obtain⟨o,h1,h2,h3⟩:=Dq ho;rcases hget' i.id o h1 with h4|h4;have ho:=(DJ (H:=H) (h1.trans h4.symm)).1 ho;cases i with
   |r i k=>simp only[owned]at *;grind
   |o i=>simp only[owned,Cd]at *;grind
  grind
 have hcomp:C5 H (H++List.replicate n .free) m m:=by
  intro i o ho hf;rcases C5.refl H m i o ho hf with h|⟨hd,o',h1,h2,_⟩
  all_goals grind
 refine⟨⟨rfl,rfl,rfl,AXl _,fun _ _ _=>rfl,fun _ h=>h,fun _ h=>.inl h,fun i b c h1 h2=>.inl ⟨i,c,hown i h1,h2⟩,hcomp⟩,⟨?_,?_,?_,?_,?_,?_,hi.lt,hi.glo,by simp[hi.len]⟩⟩;intro id o ho;rcases hget' id o ho with h|rfl;exact ObI.mono (fun _ _=>rfl) (fun _ h=>h) hcomp (fun _ _ _ _ _ _=>rfl) (hi.obj id o h);trivial;intro i;cases ho:H[i]? with
  |none=>intro T e t xs ver out h1;grind
  |some o=>exact Co.mono (fun _ _=>rfl) (fun _ h=>h) hcomp ((hget i o ho).trans ho.symm) (fun _ _=>rfl) (fun _ _ _ _ _ _ _=>rfl) (hi.row i)
 intro i T e t xs ver out hio hf x hx ht b c hm;rw[hfz]at hf;rcases hget' i _ hio with h|h;exact hi.rfz i T e t xs ver out h hf x hx ((DH (by grind)).1 ht) b c hm;grind;exact fun i k b c b' c' h1 h2=>hi.sep i k b c b' c' (hown i h1) (hown k h2);exact fun i b c h1=>hi.off i b c (hown i h1);intro i T t xs b c hio hf hmi;rw[hfz]at hf;rcases hget' i _ hio with h|h;exact hi.froz i T t xs b c h hf hmi;grind
theorem SI.pad{w:World}{F:Nat→Prop}{m:Mp}{st:St}{a:Act}(h:SI w F m st a)(n:Nat):SI w F m (st.pad n) a∧Ext w F m st.heap st.frz w F m (st.pad n).heap (st.pad n).frz:=by have hg:=h.heap.pad n;exact⟨⟨fun t=>hg.1.rep h.heap (h.tmps t),h.size,hg.2,h.defers⟩,hg.1⟩
theorem jg(hE:∀ g,BV P g (E.spec g)){id:Nat}{ops:Array Oper}{Q:Exit→Act→World→Prop}{k:St→Option R}{st:St}{w:World}{F:Nat→Prop}{m:Mp}{a:Act}(h:GF P E R ops.toList st k=some r)(hs:SI w F m st a)
  (hq:∀ a' w',AUX r k w F m st.heap st.frz a' w'→Q .normal a' w'):(Code.region id ops false).wp P Q a w:=by unfold GF at h;rw[Nx]at h;obtain⟨h1,h2⟩:=hs.pad (Cq ops.toList);have:=AIJ hE ops.toList [] _ _ w F m a (by simp) h h1 fun a' w' ⟨st',F',m',q1,q2,q3⟩=>hq a' w' ⟨st',F',m',q1,q2,h2.trans q3⟩;rw[AXs,AX0,← AZW]at this;exact wp_region this
end
end Go.Pev
end
section
namespace Go.Pev
open Go.RowKit
theorem Ej{H H':List Ob}(t:Ty)(v:AV)(h:∀ id∈BS v,H[id]? = H'[id]?):ES H t v=ES H' t v:=by cases v<;>simp only[ES];rename_i id;rw[h id (by simp[BS])];rename_i id off n;rw[h id (by simp[BS])];rename_i id;rw[h id (by simp[BS])]
theorem AAT{α:Type}{one one':List AV→Option (α×List Nat×List AV)}{H H':List Ob}
  (h1:∀ cs,(∀ id∈B1 cs,H[id]? = H'[id]?)→one cs=one' cs) (h2:∀ cs x f r,one cs=some (x,f,r)→∃ c0,cs=c0++r) :
  ∀ (n:Nat) (cs:List AV),(∀ id∈B1 cs,H[id]? = H'[id]?)→QK one n cs=QK one' n cs:=by
 intro n;induction n with
  |zero=>intro cs _;rfl
  |succ n ih=>
   intro cs h;simp only[QK];rw[← h1 cs h];cases ho:one cs with
    |none=>rfl
    |some p=>
     obtain⟨x,f,r⟩:=p;simp only;obtain⟨c0,hc⟩:=h2 _ _ _ _ ho;rw[ih r fun id hid=>h id (by
      subst hc;clear ho;induction c0 with
       |nil=>exact hid
       |cons c c0 ih'=>simp only[AX3,B1,AXq];exact .inr (ih' fun id hid=>h id (by simp only[AX3,B1,AXq];grind)))]
theorem AJV{α:Type}{one:List AV→Option (α×List Nat×List AV)}(h2:∀ cs x f r,one cs=some (x,f,r)→∃ c0,cs=c0++r):
  ∀ (n:Nat) (cs:List AV) (xs:List α) (f:List Nat) (r:List AV),QK one n cs=some (xs,f,r)→∃ c0,cs=c0++r:=by
 intro n;induction n with
  |zero=>intro cs xs f r h;simp only[QK,AXa,AXt]at h;simp_all
  |succ n ih=>intro cs xs f r h;simp only[QK]at h;grind
theorem QL{H:List Ob}:∀ (t:Ty) (cs:List AV) (x:t.den) (f:List Nat) (r:List AV),BW H t cs=some (x,f,r)→∃ c0,cs=c0++r:=by
 intro t;induction t with
  |unit=>intro cs x f r h;simp only[BW,AXa,AXt]at h;simp_all
  |bool=>
   intro cs x f r h;cases cs with
    |nil=>simp[BW]at h
    |cons c cs=>unfold BW at h;split at h;cases h;simp only[AXa,AXt]at h;exact⟨[c],by grind⟩
  |int k=>
   intro cs x f r h;cases cs with
    |nil=>simp[BW]at h
    |cons c cs=>unfold BW at h;split at h;cases h;simp only[AXa,AXt]at h;exact⟨[c],by grind⟩
  |slice e _=>
   intro cs x f r h;cases cs with
    |nil=>simp[BW]at h
    |cons c cs=>unfold BW at h;split at h;cases h;simp only[AXa,AXt]at h;exact⟨[c],by grind⟩
  |nul e=>
   intro cs x f r h;cases cs with
    |nil=>simp[BW]at h
    |cons c cs=>unfold BW at h;split at h;cases h;simp only[AXa,AXt]at h;exact⟨[c],by grind⟩
  |mapi j e _=>
   intro cs x f r h;cases cs with
    |nil=>simp[BW]at h
    |cons c cs=>unfold BW at h;split at h;cases h;simp only[AXa,AXt]at h;exact⟨[c],by grind⟩
  |prod a b iha ihb=>intro cs x f r h;simp only[BW]at h;grind
  |arr n e ih=>intro cs x f r h;simp only[BW]at h;exact AJV ih n cs _ _ _ h
theorem Eb(a b:List AV):B1 (a++b)=B1 a++B1 b:=by
 induction a with
  |nil=>rfl
  |cons x a ih=>simp[B1,ih]
theorem Nz{H H':List Ob}:∀ (t:Ty) (cs:List AV),(∀ id∈B1 cs,H[id]? = H'[id]?)→BW H t cs=BW H' t cs:=by
 intro t;induction t with
  |unit=>intro cs _;cases cs<;>rfl
  |bool=>
   intro cs h;cases cs with
    |nil=>rfl
    |cons c cs=>unfold BW;rw[Ej .bool c fun id hid=>h id (by simp[B1,hid])]
  |int k=>
   intro cs h;cases cs with
    |nil=>rfl
    |cons c cs=>unfold BW;rw[Ej (.int k) c fun id hid=>h id (by simp[B1,hid])]
  |slice e _=>
   intro cs h;cases cs with
    |nil=>rfl
    |cons c cs=>unfold BW;rw[Ej (.slice e) c fun id hid=>h id (by simp[B1,hid])]
  |nul e=>
   intro cs h;cases cs with
    |nil=>rfl
    |cons c cs=>unfold BW;rw[Ej (.nul e) c fun id hid=>h id (by simp[B1,hid])]
  |mapi j e _=>
   intro cs h;cases cs with
    |nil=>rfl
    |cons c cs=>unfold BW;rw[Ej (.mapi j e) c fun id hid=>h id (by simp[B1,hid])]
  |prod a b iha ihb=>
   intro cs h;simp only[BW];rw[← iha cs h];cases hx:BW H a cs with
    |none=>rfl
    |some p=>obtain⟨x,f,r⟩:=p;simp only;obtain⟨c0,rfl⟩:=QL a _ _ _ _ hx;rw[ihb r fun id hid=>h id (by rw[Eb];grind)]
  |arr n e ih=>intro cs h;simp only[BW];exact AAT ih (QL e) n cs h
theorem Cf{H H':List Ob}(t:Ty)(v:AV)(h:∀ id∈BS v,H[id]? = H'[id]?):FM H t v=FM H' t v:=by unfold FM;split;cases v<;>simp only[asAgg];rename_i cs;rw[Nz t cs fun id hid=>h id (by simpa [BS]using hid)];exact Ej t v h
theorem T3{H H':List Ob}(t:Ty)(v:AV)(h:∀ id∈BS v,H[id]? = H'[id]?):ZM H t v=ZM H' t v:=by have h1:=Cf t v h;cases v<;>simp only[ZM]<;>first|exact h1|(rw[h1,h _ (by simp[BS])])
structure RX(T:List Nat)(slot n:Nat)(W:List Nat)(H H':List Ob)(fz fz':List Bool):Prop where
 heap:∀ id∈T,H[id]? = H'[id]?
 slotH:∀ s,slot≤s→s<slot+n→H[s]? = H'[s]?
 slotF:∀ s,slot≤s→s<slot+n→fz.getD s false=fz'.getD s false
 len:fz.length=fz'.length
 wrF:∀ id∈W,fz.getD id false=fz'.getD id false
theorem Ee{T:List Nat}{slot n:Nat}{W:List Nat}{H H':List Ob}{fz fz':List Bool}(h:RX T slot n W H H' fz fz'){s:Nat}(h1:slot≤s)(h2:s<slot+n)(fr:List Nat):
  Bc H (BI fr fz) s=Bc H' (BI fr fz') s:=by unfold Bc;rw[h.slotH s h1 h2,Bh,Bh,h.slotF s h1 h2,h.len]
theorem DT{T:List Nat}{slot n:Nat}{W:List Nat}{H H':List Ob}{fz fz':List Bool}(h:RX T slot n W H H' fz fz'){s:Nat}(h1:slot≤s)(h2:s<slot+n):
  Bc H fz s=Bc H' fz' s:=Ee h h1 h2 []
theorem C6{T W:List Nat}{slot n:Nat}{H H':List Ob}{fz fz':List Bool}(h:RX T slot n W H H' fz fz'){id:Nat}(hid:id∈W)(fr:List Nat):
  BJ (BI fr fz) id=BJ (BI fr fz') id:=by unfold BJ;rw[Bh,Bh,h.wrF id hid,h.len]
def Ga(s:Spec):Prop:=
 ∀ R args H H' fz fz' slot k,RX (B1 args) slot 4 [] H H' fz fz'→s R args H fz slot k=s R args H' fz' slot k
def WS(S:List Nat)(H:List Ob):Prop:=∀ id∈S,∀ cs,H[id]? = some (.box cs)→∀ j∈B1 cs,j∈S
def Hh(s:Spec):Prop:=
 ∀ R args H H' fz fz' slot k (S:List Nat),(∀ id∈B1 args,id∈S)→WS S H→RX S slot 4 S H H' fz fz'→s R args H fz slot k=s R args H' fz' slot k
def EV(E:Env):Prop:=(∀ g,E.loc g=true→Ga (E.spec g))∧∀ g,E.GL g=true→Hh (E.spec g)
section
variable {P:Program} {E:Env}
theorem Ky{ρ ρ':Operand→AV}{l:List Operand}(h:∀ x∈l,ρ x=ρ' x):l.map ρ=l.map ρ':=List.map_congr_left h
theorem TP{ρ ρ':Operand→AV}{l:List (Nat×Operand)}(h:∀ x∈l.map (·.2),ρ x=ρ' x):(l.map fun p=>(p.1,ρ p.2))=l.map fun p=>(p.1,ρ' p.2):=
 List.map_congr_left fun p hp=>by grind
theorem QI{ρ ρ':Operand→AV}{o:Option Operand}(h:∀ x∈o.toArray,ρ x=ρ' x):E8 ρ o=E8 ρ' o:=by
 cases o with
  |none=>rfl
  |some x=>simp only[E8];grind
theorem Ci{R:Type}{ρ ρ':Operand→AV}(o:Op)(ty:TypeId)(H:List Ob)(fz:List Bool)(slot:Nat)(k:AV→Eff→Option R)(h:∀ x∈o.operands,ρ x=ρ' x):
  evalOp P E R o ty ρ H fz slot k=evalOp P E R o ty ρ' H fz slot k:=by
 cases o with
  |call c=>
   obtain⟨callee,args,ts⟩:=c;cases callee with
    |value f=>have hf:=h f (by simp[Op.operands,Call.operands]);have ha:args.toList.map ρ=args.toList.map ρ':=Ky fun x hx=>h x (by simp[Op.operands,Call.operands];grind);simp only[evalOp,Jn,hf,ha]
    |invoke r n=>rfl
    |builtin b=>
     have ha:∀ x∈args.toList,ρ x=ρ' x:=fun x hx=>h x (by simp[Op.operands,Call.operands];grind);cases b with
      |len=>
       simp only[evalOp,Mc];cases hl:args.toList with
        |nil=>rfl
        |cons x r=>cases r with
         |nil=>
          rw[hl]at ha
          cases ts.toList with
          |nil=>rfl
          |cons T r=>grind
         |cons y r=>rfl
      |append=>
       simp only[evalOp,De];cases hl:args.toList with
        |nil=>rfl
        |cons x r=>cases r with
         |nil=>rfl
         |cons y r=>cases r with
          |nil=>
           rw[hl]at ha
           cases ts.toList with
           |nil=>rfl
           |cons T r=>cases r with
            |nil=>rfl
            |cons T' r=>cases r with
             |nil=>simp only[ha x (by simp),ha y (by simp)]
             |cons T'' r=>rfl
          |cons z r=>rfl
      |cap=>simp only[evalOp,AE5];grind
      |clear=>
       simp only[evalOp,Hb];cases hl:args.toList with
        |nil=>rfl
        |cons x r=>grind
      |min=>simp only[evalOp,AE3];grind
      |max=>simp only[evalOp,AE4];grind
      |_=>rfl
  |build T parts=>have:=TP (ρ:=ρ) (ρ':=ρ') (l:=parts.toList) fun x hx=>h x (by simpa [Op.operands]using hx);simp only[evalOp,LH,this]
  |buildSlice T n parts=>have:=TP (ρ:=ρ) (ρ':=ρ') (l:=parts.toList) fun x hx=>h x (by simpa [Op.operands]using hx);simp only[evalOp,Ei,this]
  |makeFunc fn first cs=>
   cases fn with
    |func f=>have:=Ky (ρ:=ρ) (ρ':=ρ') (l:=cs.toList) fun x hx=>h x (by simp[Op.operands];grind);have hfst:=Ky (ρ:=ρ) (ρ':=ρ') (l:=first.toList) fun x hx=>h x (by simp[Op.operands];grind);simp only[evalOp,E_,this];grind
    |_=>rfl
  |slice T x lo up mx=>
   have hx:=h x (by simp[Op.operands]);have hlo:=QI (ρ:=ρ) (ρ':=ρ') (o:=lo) fun y hy=>h y (by simp[Op.operands];grind);have hup:=QI (ρ:=ρ) (ρ':=ρ') (o:=up) fun y hy=>h y (by simp[Op.operands];grind);cases mx with
    |none=>simp only[evalOp,DN,hx,hlo,hup]
    |some m=>have hm:=h m (by simp[Op.operands]);rcases up with _|q;simp only[evalOp,DN,hx,hlo,hup,hm];have hq:=h q (by simp[Op.operands]);cases q<;>simp only[evalOp,DN,hx,hlo,hup,hm,hq]
  |makeMap T o=>cases o<;>rfl
  |pick a b c=>simp only[evalOp,Sf,h a (by simp[Op.operands]),h b (by simp[Op.operands]),h c (by simp[Op.operands])]
  |mapUpdate a b c d=>simp only[evalOp,FJ,h b (by simp[Op.operands]),h c (by simp[Op.operands]),h d (by simp[Op.operands])]
  |mapEntry a b c=>simp only[evalOp,GQ,h b (by simp[Op.operands]),h c (by simp[Op.operands])]
  |entryStore a b c d=>simp only[evalOp,Ff,h b (by simp[Op.operands]),h c (by simp[Op.operands]),h d (by simp[Op.operands])]
  |insert a b c d=>simp only[evalOp,Md,h b (by simp[Op.operands]),h c (by simp[Op.operands]),h d (by simp[Op.operands])]
  |move x|assign x|box _ x|load _ x|nilCheck x|unOp _ _ x|convert _ _ x|fieldAddr _ x _|field _ x _|extract x _|makeInterface _ x|typeAssert x _ _ _=>simp only[evalOp,sd,GR,KI,Qr,Dk,Jm,Ey,DU,Eh,Se,h x (by simp[Op.operands])]
  |store _ x y|binOp _ _ x y _|makeSlice _ x y|indexAddr _ x y|index _ x y|lookup _ x y _=>simp only[evalOp,DO,LG,CH,EM,G5,Gh,h x (by simp[Op.operands]),h y (by simp[Op.operands])]
  |_=>rfl
theorem IA{ρ:Operand→AV}{o:Op}{x:Operand}(hx:x∈o.operands){id:Nat}(hid:id∈BS (ρ x)):id∈HE ρ o:=by unfold HE;grind
theorem VH{H H':List Ob}(t:Ty):∀ (ps:List (Nat×AV)) (xs:List t.den) (fr:List Nat),(∀ p∈ps,∀ id∈BS p.2,H[id]? = H'[id]?)→D8 H t ps xs fr=D8 H' t ps xs fr:=by
 intro ps;induction ps with
  |nil=>intro xs fr _;rfl
  |cons p ps ih=>
   intro xs fr h;obtain⟨i,v⟩:=p;simp only[D8];rw[Cf t v (h (i,v) (by simp))];cases FM H' t v with
    |none=>rfl
    |some q=>cases decide (i<xs.length)with
     |true=>exact ih _ _ fun p hp=>h p (by simp[hp])
     |false=>rfl
theorem Gf:∀ (t:Ty) (d:t.den),B1 (CC t d)=[]:=by
 intro t;induction t with
  |unit=>intro d;rfl
  |bool=>intro d;rfl
  |int k=>intro d;rfl
  |slice e _=>intro d;rfl
  |nul e=>intro d;rfl
  |mapi j e _=>intro d;rfl
  |prod a b iha ihb=>intro d;simp only[CC];rw[Eb,iha,ihb];rfl
  |arr n e ih=>
   intro d;simp only[CC];have key:∀ l:List Nat,B1 (l.flatMap fun i=>CC e (A7 d i e.zero))=[]:=by
    intro l;induction l with
     |nil=>rfl
     |cons x xs ih'=>rw[AY4,Eb,ih,ih'];rfl
   grind
theorem yW(l:List AV)(n:Nat){id:Nat}(h:id∈B1 (l.take n)):id∈B1 l:=by have:=AYK n l;rw[← this,Eb];simp[h]
theorem yX(l:List AV)(n:Nat){id:Nat}(h:id∈B1 (l.drop n)):id∈B1 l:=by have:=AYK n l;rw[← this,Eb];simp[h]
theorem cells?_refs{v:AV}{vs:List AV}(h:cells? v=some vs){id:Nat}(hid:id∈B1 vs):id∈BS v:=by
 cases v with
  |Cr=>simp[cells?]at h
  |tup _=>simp[cells?]at h
  |agg cs=>simp only[cells?,AXa]at h;subst h;simpa [BS]using hid
  |data t d=>
   cases t with
    |unit=>simp only[cells?,AXa]at h;subst h;simp[B1]at hid
    |prod a b=>simp only[cells?,AXa]at h;subst h;rw[Gf]at hid;cases hid
    |arr n e=>simp only[cells?,AXa]at h;subst h;rw[Gf]at hid;cases hid
    |bool=>simp only[cells?,AXa]at h;subst h;simpa [B1]using hid
    |int k=>simp only[cells?,AXa]at h;subst h;simpa [B1]using hid
    |slice e=>simp only[cells?,AXa]at h;subst h;simpa [B1]using hid
    |nul e=>simp only[cells?,AXa]at h;subst h;simpa [B1]using hid
    |mapi j e=>simp only[cells?,AXa]at h;subst h;simpa [B1]using hid
  |_=>simp only[cells?,AXa]at h;subst h;simpa [B1]using hid
theorem yn{t:Ty}{d:t.den}{v:AV}{vs cs:List AV}{s:Nat}(hp:EG (CC t d) vs s=some cs)(hc:cells? v=some vs){id:Nat}(hid:id∈B1 cs):id∈BS v:=by unfold EG at hp;split at hp;simp only[AXa]at hp;subst hp;rw[Eb,Eb,AXq,AXq]at hid;rcases hid with(hid|hid)|hid;have:=yW _ _ hid;rw[Gf]at this;grind;exact cells?_refs hc hid;have:=yX _ _ hid;rw[Gf]at this;grind;grind
theorem N4{R:Type}(hL:EV E){ρ:Operand→AV}(o:Op)(ty:TypeId){H H':List Ob}{fz fz':List Bool}{slot:Nat}(k:AV→Eff→Option R)
  (ha:RX (HE ρ o) slot (slotsOf o) (ED ρ o) H H' fz fz') (hl:FV E ρ o=true):evalOp P E R o ty ρ H fz slot k=evalOp P E R o ty ρ H' fz' slot k:=by
 have tm:∀ x∈o.operands,∀ id∈BS (ρ x),H[id]? = H'[id]? := fun x hx id hid=>ha.heap id (IA hx hid);have own:∀ x∈o.operands,∀ id,ρ x = .own id→H[id]? = H'[id]? := fun x hx id h=>tm x hx id (by rw[h];simp[BS]);have win:∀ x∈o.operands,∀ id off n,ρ x = .win id off n→H[id]? = H'[id]? := fun x hx id off n h=>tm x hx id (by rw[h];simp[BS]);have ptr:∀ x∈o.operands,∀ id off,ρ x = .ptr id off→H[id]? = H'[id]? := fun x hx id off h=>tm x hx id (by rw[h];simp[BS]);have ept:∀ x∈o.operands,∀ id i s,ρ x = .eptr id i s→H[id]? = H'[id]? := fun x hx id i s h=>tm x hx id (by rw[h];simp[BS]);have mpp:∀ x∈o.operands,∀ id,ρ x = .mp id→H[id]? = H'[id]? := fun x hx id h=>tm x hx id (by rw[h];simp[BS]);cases o with
  |alloc T=>simp only[evalOp,Nd,DT ha (s:=slot) (AXl _) (by simp[slotsOf])]
  |box T x=>simp only[evalOp,sd,DT ha (s:=slot) (AXl _) (by simp[slotsOf])]
  |buildSlice T n parts=>
   have hf:∀ (t:Ty) xs fr,D8 H t (parts.toList.map fun p=>(p.1,ρ p.2)) xs fr=D8 H' t (parts.toList.map fun p=>(p.1,ρ p.2)) xs fr:=fun t xs fr=>
    VH t _ xs fr fun p hp id hid=>by
     obtain⟨q,hq,rfl⟩:=AYE.1 hp
     exact tm q.2 (by simp[Op.operands];grind) id hid
   simp only[evalOp,Ei,hf,Ee ha (s:=slot) (AXl _) (by simp[slotsOf]),DT ha (s:=slot) (AXl _) (by simp[slotsOf])];cases sliceAt P T with
    |some p=>rfl
    |none=>
     dsimp only;cases cellAt P T with
      |none=>rfl
      |some e=>cases decide (n=1)with
       |false=>rfl
       |true=>
        cases hps:parts.toList with
        |nil=>rfl
        |cons p r=>cases r with
         |cons p' r=>rfl
         |nil=>
          simp only[AX4,AZc]
          cases hx:ρ p.2<;>try rfl
          rename_i id i s
          dsimp only
          simp only[DW,ept p.2 (by simp[Op.operands];exact⟨p.1,(by simpa using (show p∈parts.toList by grind))⟩) id i s hx]
  |load T x=>
   simp only[evalOp,Jm];cases CD P T with
    |none=>rfl
    |some n=>cases Ew P T with
     |none=>rfl
     |some ag=>
      cases hx:ρ x<;>try rfl
      ·rename_i id off;simp only[ptr x (by simp[Op.operands]) id off hx]
      ·rename_i id i s;simp only[ept x (by simp[Op.operands]) id i s hx]
  |store T x y=>
   have hy:=tm y (by simp[Op.operands]);simp only[evalOp,Gh];cases hs:CD P T with
    |none=>rfl
    |some n=>cases hc:cells? (ρ y)with
     |none=>rfl
     |some vs=>
      dsimp only
      cases hd:decide (vs.length=n)with
      |false=>rfl
      |true=>
       dsimp only
       cases hx:ρ x<;>try rfl
       ·rename_i id off;dsimp only;rw[ptr x (by simp[Op.operands]) id off hx]
       ·rename_i id i s
        dsimp only
        rw[ept x (by simp[Op.operands]) id i s hx]
        have hun:∀ fr,BJ (BI fr fz) id=BJ (BI fr fz') id:=fun fr=>C6 ha (by simp[ED,hx,BS]) fr
        cases H'[id]? with
        |none=>rfl
        |some ob=>cases ob with
         |arr T' t xs=>
          simp only[hun,Cf _ (ρ y) hy]
          cases t.nul? with
          |some e=>rfl
          |none=>
          dsimp only
          cases (s==0&&n==t.size)with
          |true=>rfl
          |false=>
           dsimp only
           cases hp:EG (CC t (A7 xs i t.zero)) vs s with
           |none=>rfl
           |some cs=>
            dsimp only
            rw[Nz t cs (fun id' hid=>hy id' (yn hp hc hid))]
         |rows T' e t xs ver out=>
          have hun0:BJ fz id=BJ fz' id:=hun []
          grind
         |_=>rfl
  |nilCheck x=>
   simp only[evalOp,DU];cases hx:ρ x<;>try rfl
   rename_i id off;simp only[FW,ptr x (by simp[Op.operands]) id off hx];rename_i id i s;simp only[DW,ept x (by simp[Op.operands]) id i s hx]
  |fieldAddr T x f=>
   simp only[evalOp,Dk];cases fieldAt P T f with
    |none=>rfl
    |some p=>
     obtain⟨off,size,ag⟩:=p;dsimp only;cases decide (size=0)with
      |true=>rfl
      |false=>
       dsimp only;cases hx:ρ x<;>try rfl
       rename_i id off;simp only[FW,ptr x (by simp[Op.operands]) id off hx];rename_i id i s;simp only[DW,ept x (by simp[Op.operands]) id i s hx]
  |makeMap T o=>
   cases o with
    |none=>simp only[evalOp,H0,DT ha (s:=slot) (AXl _) (by simp[slotsOf])]
    |some x=>rfl
  |makeSlice T x y=>simp only[evalOp,G5,DT ha (s:=slot) (AXl _) (by simp[slotsOf])]
  |slice T x lo up mx=>
   have hx:=tm x (by simp[Op.operands]);cases mx with
    |none=>
     have hsl:∀ sz l h,Gc H sz (ρ x) l h R=Gc H' sz (ρ x) l h R:=fun sz l h=>by
      funext kk;unfold Gc;cases hv:ρ x with
       |data t d=>cases t<;>rfl
       |own id=>dsimp only;rw[own x (by simp[Op.operands]) id hv]
       |win id off n=>dsimp only;rw[win x (by simp[Op.operands]) id off n hv]
       |_=>rfl
     simp only[evalOp,DN,hsl];cases P.underlying T with
      |none=>rfl
      |some d=>cases d with
       |array n e=>
        dsimp only
        cases E8 ρ lo with
        |none=>rfl
        |some lo=>cases E8 ρ up with
         |none=>rfl
         |some up=>
          cases hv:ρ x<;>try rfl
          rename_i id n'
          dsimp only
          rw[tm x (by simp[Op.operands]) id (by rw[hv];simp[BS])]
       |_=>rfl
    |some mm=>
     have hsl:GN H (ρ x)=GN H' (ρ x):=by
      unfold GN;cases hv:ρ x with
       |data t d=>cases t<;>rfl
       |own id=>simp only[DW,own x (by simp[Op.operands]) id hv]
       |win id off n=>simp only[DW,win x (by simp[Op.operands]) id off n hv]
       |_=>rfl
     simp only[evalOp,DN,hsl,DT ha (s:=slot) (AXl _) (by simp[slotsOf])]
  |indexAddr T x y=>
   simp only[evalOp,CH];cases hu:P.underlying T with
    |none=>rfl
    |some d=>cases d with
     |slice e=>
      cases hy:ρ y<;>try rfl
      rename_i t d'
      cases t<;>try rfl
      cases hv:ρ x with
      |data t d=>cases t<;>rfl
      |own id=>dsimp only;rw[own x (by simp[Op.operands]) id hv]
      |win id off n=>dsimp only;rw[win x (by simp[Op.operands]) id off n hv]
      |_=>rfl
     |array n e=>
      cases hy:ρ y<;>try rfl
      rename_i t d'
      cases t<;>try rfl
      rename_i j
      have hat:ZN H n (ρ x)=ZN H' n (ρ x):=by
       unfold ZN
       cases hv:ρ x<;>try rfl
       rename_i id n'
       dsimp only
       rw[tm x (by simp[Op.operands]) id (by rw[hv];simp[BS])]
      dsimp only
      rw[hat]
      cases ZN H' n (ρ x)with
      |some q=>rfl
      |none=>
      dsimp only
      cases gAt (ρ x)with
      |some q=>rfl
      |none=>
      dsimp only
      cases CD P e with
      |none=>rfl
      |some s=>cases decide (0≤(d':Int)∧(d':Int)<(n:Int))with
       |false=>rfl
       |true=>
        dsimp only
        cases hv:ρ x<;>try rfl
        ·rename_i id off;simp only[FW,ptr x (by simp[Op.operands]) id off hv]
        ·rename_i id i s;simp only[DW,ept x (by simp[Op.operands]) id i s hv]
     |_=>rfl
  |lookup T a b ok=>
   have hb:=fun t=>Cf t (ρ b) (tm b (by simp[Op.operands]));simp only[evalOp,EM,hb];cases hu:P.underlying T with
    |none=>rfl
    |some d=>cases d with
     |map kt vt=>
      cases hv:ρ a with
      |data t d=>cases t<;>rfl
      |mp id=>dsimp only;rw[mpp a (by simp[Op.operands]) id hv]
      |_=>rfl
     |_=>rfl
  |mapUpdate T a b c=>
   have hb:=fun t=>Cf t (ρ b) (tm b (by simp[Op.operands]));have hc:=fun t=>Cf t (ρ c) (tm c (by simp[Op.operands]));simp only[evalOp,FJ,hb,hc];cases hu:P.underlying T with
    |none=>rfl
    |some d=>cases d with
     |map kt vt=>
      cases hv:ρ a<;>try rfl
      rename_i id
      dsimp only
      have hun:BJ fz id=BJ fz' id:=C6 ha (by simp[ED,hv,BS]) []
      rw[mpp a (by simp[Op.operands]) id hv,hun]
     |_=>rfl
  |mapEntry T a b=>
   have hb:=fun t=>Cf t (ρ b) (tm b (by simp[Op.operands]));simp only[evalOp,GQ];cases hu:P.underlying T with
    |none=>rfl
    |some d=>cases d with
     |map kt vt=>
      cases hv:ρ a<;>try rfl
      rename_i id
      dsimp only
      rw[mpp a (by simp[Op.operands]) id hv]
      grind
     |_=>rfl
  |entryStore T a b c=>
   have hc:=fun t=>Cf t (ρ c) (tm c (by simp[Op.operands]));simp only[evalOp,Ff];cases hv:ρ a<;>try rfl
   rename_i id;cases hs:ρ b<;>try rfl
   rename_i t d;cases t<;>try rfl
   rename_i j;cases j<;>try rfl
   dsimp only;rw[mpp a (by simp[Op.operands]) id hv];grind
  |insert T a b c=>
   have hb:=fun t=>Cf t (ρ b) (tm b (by simp[Op.operands]));have hc:=fun t=>Cf t (ρ c) (tm c (by simp[Op.operands]));simp only[evalOp,Md];cases hu:P.underlying T with
    |none=>rfl
    |some d=>cases d with
     |map kt vt=>
      cases hv:ρ a<;>try rfl
      rename_i id
      dsimp only
      rw[mpp a (by simp[Op.operands]) id hv]
      grind
     |_=>rfl
  |convert S T x=>have hx:=fun t=>Cf t (ρ x) (tm x (by simp[Op.operands]));simp only[evalOp,GR];grind
  |call c=>
   obtain⟨callee,args,ts⟩:=c;cases callee with
    |value f=>
     simp only[evalOp,Jn];cases hf:ρ f<;>try rfl
     rename_i g caps;dsimp only;refine hL.1 g (by simpa [FV,hf]using hl) R _ H H' fz fz' slot k ⟨fun id hid=>ha.heap id ?_,ha.slotH,ha.slotF,ha.len,fun id hid=>by cases hid⟩;rw[Eb,AXq]at hid;rcases hid with hid|hid;have key:∀ l:List Operand,id∈B1 (l.map ρ)→∃ x∈l,id∈BS (ρ x):=by
      intro l;induction l with
       |nil=>intro h;simp[B1]at h
       |cons y l ih=>intro h;simp only[AX4,B1,AXq]at h;grind
     obtain⟨x,h1,h2⟩:=key _ hid;exact IA (x:=x) (by simp[Op.operands,Call.operands];grind) h2;exact IA (x:=f) (by simp[Op.operands,Call.operands]) (by rw[hf];simpa [BS]using hid);rename_i g caps;dsimp only;refine hL.1 g (by simpa [FV,hf]using hl) R _ H H' fz fz' slot k ⟨fun id hid=>ha.heap id ?_,ha.slotH,ha.slotF,ha.len,fun id hid=>by cases hid⟩;rw[Eb,AXq]at hid;rcases hid.symm with hid|hid;have key:∀ l:List Operand,id∈B1 (l.map ρ)→∃ x∈l,id∈BS (ρ x):=by
      intro l;induction l with
       |nil=>intro h;simp[B1]at h
       |cons y l ih=>intro h;simp only[AX4,B1,AXq]at h;grind
     obtain⟨x,h1,h2⟩:=key _ hid;exact IA (x:=x) (by simp[Op.operands,Call.operands];grind) h2;exact IA (x:=f) (by simp[Op.operands,Call.operands]) (by rw[hf];simpa [BS]using hid)
    |invoke r n=>rfl
    |builtin b=>
     have ops:∀ x∈args.toList,x∈Op.operands (.call { callee:=.builtin b,args:=args,argTypes:=ts }):=fun x hx=>by simp[Op.operands,Call.operands];grind
     cases b with
      |len=>
       simp only[evalOp,Mc];cases h1:args.toList with
        |nil=>rfl
        |cons x r=>cases r with
         |cons y r=>rfl
         |nil=>
          have hx:=ops x (by grind)
          cases ts.toList with
          |nil=>rfl
          |cons T r=>cases r with
           |cons T' r=>rfl
           |nil=>
            dsimp only
            cases hu:P.underlying T with
            |none=>rfl
            |some d=>
             cases d with
             |slice e=>
              dsimp only
              cases hv:ρ x with
              |data t d=>cases t<;>rfl
              |own id=>grind
              |win id off n=>simp only[DW,win x hx id off n hv]
              |_=>rfl
             |map a b=>
              grind
             |_=>rfl
      |append=>
       simp only[evalOp,De];cases h1:args.toList with
        |nil=>rfl
        |cons s r=>cases r with
         |nil=>rfl
         |cons x r=>cases r with
          |cons z r=>rfl
          |nil=>
           have hs:=ops s (by grind)
           have hx:=ops x (by grind)
           have hfree:=DT ha (s:=slot) (AXl _) (by simp[slotsOf])
           cases ts.toList with
           |nil=>rfl
           |cons T r=>cases r with
            |nil=>rfl
            |cons T' r=>cases r with
             |cons T'' r=>rfl
             |nil=>
              dsimp only
              cases sliceAt P T with
              |none=>
               cases decide (T=T')with
               |false=>rfl
               |true=>
                dsimp only
                cases cellAt P T with
                |none=>rfl
                |some e=>
                 cases hvx:ρ x<;>try rfl
                 rename_i ix
                 dsimp only
                 rw[own x hx ix hvx]
                 cases hvs:ρ s with
                 |own id=>grind
                 |_=>simp only[hfree]
              |some p=>
               obtain⟨e,t⟩:=p
               cases decide (T=T')with
               |false=>
                grind
               |true=>
                dsimp only
                rw[Cf (.slice t) (ρ x) (tm x hx)]
                cases FM H' (.slice t) (ρ x)with
                |none=>rfl
                |some q=>
                 obtain⟨ys,fr⟩:=q
                 cases zeroAt P e with
                 |none=>rfl
                 |some zz=>
                  cases (P.info? e).map (fun i=>decide (i.bytes≤1024))with
                  |none=>rfl
                  |some bb=>cases bb with
                   |false=>rfl
                   |true=>
                    dsimp only
                    cases hv:ρ s<;>try rfl
                    ·grind
                    ·rename_i id
                     have hun:BJ fz id=BJ fz' id:=C6 ha (by simp[ED,h1,hv,BS]) []
                     dsimp only
                     rw[own s hs id hv]
                     simp_all
                    ·rename_i id off n
                     have hun:BJ fz id=BJ fz' id:=C6 ha (by simp[ED,h1,hv,BS]) []
                     cases off with
                     |succ off=>rfl
                     |zero=>simp only[win s hs id 0 n hv,hfree,hun]
                    ·grind
                    ·rename_i id i ver
                     have hun:BJ fz id=BJ fz' id:=C6 ha (by simp[ED,h1,hv,BS]) []
                     dsimp only
                     rw[tm s hs id (by rw[hv];simp[BS])]
                     grind
      |clear=>
       simp only[evalOp,Hb];cases h1:args.toList with
        |nil=>rfl
        |cons x r=>cases r with
         |cons z r=>rfl
         |nil=>
          have hx:=ops x (by grind)
          cases ts.toList with
          |nil=>rfl
          |cons T r=>cases r with
           |cons T' r=>rfl
           |nil=>
            dsimp only
            cases sliceAt P T with
            |none=>rfl
            |some p=>
             obtain⟨e,t⟩:=p
             dsimp only
             cases zeroAt P e with
             |none=>rfl
             |some zz=>
              dsimp only
              cases hv:ρ x<;>try rfl
              ·rename_i id
               have hun:BJ fz id=BJ fz' id:=C6 ha (by simp[ED,h1,hv,BS]) []
               grind
              ·rename_i id off n
               have hun:BJ fz id=BJ fz' id:=C6 ha (by simp[ED,h1,hv,BS]) []
               grind
      |_=>rfl
  |makeFunc fn first cs=>cases fn<;>rfl
  |_=>rfl
theorem kl{R:Type}(hL:EV E){ρ:Operand→AV}(o:Op)(ty:TypeId){H H':List Ob}{fz fz':List Bool}{slot:Nat}(k:AV→Eff→Option R)
  (ha:RX (Jt ρ o) slot (slotsOf o) (ED ρ o) H H' fz fz') (hl:FV E ρ o=true):evalOp P E R o ty ρ H fz slot k=evalOp P E R o ty ρ H' fz' slot k:=by
 cases o with
  |move x=>rfl
  |assign x=>rfl
  |pick c a b=>rfl
  |extract x i=>rfl
  |build T ps=>rfl
  |makeFunc f a b=>cases f<;>rfl
  |store T x y=>
   by_cases hp:∃ id off,ρ x = .ptr id off;obtain⟨id,off,hx⟩:=hp;have hid:=ha.heap id (by simp only[Jt,hx];simp);simp only[evalOp,Gh,hx,hid];have e:Jt ρ (.store T x y)=HE ρ (.store T x y):=by simp only[Jt];grind
   rw[e]at ha;exact N4 hL (.store T x y) ty k ha hl
  |_=>exact N4 hL _ ty k ha hl
theorem dT{l:List AV}{id:Nat}(h:id∈B1 l):∃ v∈l,id∈BS v:=by
 induction l with
  |nil=>simp[B1]at h
  |cons a l ih=>simp only[B1,AXq]at h;grind
theorem DI{l:List AV}{v:AV}{id:Nat}(hv:v∈l)(h:id∈BS v):id∈B1 l:=by
 induction l with
  |nil=>cases hv
  |cons a l ih=>simp only[B1,AXq];grind
theorem sc{R:Type}(hL:EV E){ρ:Operand→AV}{φ:List Nat}(o:Op)(ty:TypeId){H H':List Ob}{fz fz':List Bool}{slot:Nat}(k:AV→Eff→Option R)(hw:KZ E ρ o φ H=true)
  (ha:RX (φ.map (· / 2)) slot (slotsOf o) (φ.map (· / 2)) H H' fz fz'):evalOp P E R o ty ρ H fz slot k=evalOp P E R o ty ρ H' fz' slot k:=by
 unfold KZ at hw;simp only[AXd]at hw;obtain⟨⟨⟨h1,h2⟩,h3⟩,h4⟩:=hw;unfold SA at h4;split at h4;rename_i f args ts;split at h4;rename_i g caps hf;simp only[evalOp,Jn,hf];have wtS:∀ {i:Nat},wt φ i=true→i∈φ.map (· / 2):=by intro i hi;unfold wt at hi;grind
 refine hL.2 g h4 R _ H H' fz fz' slot k (φ.map (· / 2)) (fun id hid => ?_) (fun id hid cs hc j hj => ?_) ⟨ha.heap,ha.slotH,ha.slotF,ha.len,ha.wrF⟩
 rw[AXy]at h1;refine wtS (h1 id ?_);unfold HE;rw[List.mem_flatMap];obtain⟨v,hv,hi⟩:=dT hid;rcases AXq.1 hv with hv|hv;obtain⟨x,hx,rfl⟩:=AYE.1 hv;exact⟨x,by simp[Op.operands,Call.operands];grind,hi⟩;exact⟨f,by simp[Op.operands,Call.operands],by rw[hf];simp only[BS];exact DI hv hi⟩;unfold Ng at h2;grind;rename_i g caps hf;simp only[evalOp,Jn,hf];have wtS:∀ {i:Nat},wt φ i=true→i∈φ.map (· / 2):=by intro i hi;unfold wt at hi;grind
 refine hL.2 g h4 R _ H H' fz fz' slot k (φ.map (· / 2)) (fun id hid => ?_) (fun id hid cs hc j hj => ?_) ⟨ha.heap,ha.slotH,ha.slotF,ha.len,ha.wrF⟩
 rw[AXy]at h1;refine wtS (h1 id ?_);unfold HE;rw[List.mem_flatMap];obtain⟨v,hv,hi⟩:=dT hid;rcases(AXq.1 hv).symm with hv|hv;obtain⟨x,hx,rfl⟩:=AYE.1 hv;exact⟨x,by simp[Op.operands,Call.operands];grind,hi⟩;exact⟨f,by simp[Op.operands,Call.operands],by rw[hf];simp only[BS];exact DI hv hi⟩;unfold Ng at h2;grind;grind;grind
end
end Go.Pev
end
section
namespace Go.Pev
open Go.RowKit
section
variable {P:Program} {E:Env}
def D3(all:List Oper)(g:Option (Nat×Bool))(st:St):Option Bool:=
 match g with
 |none=>some true
 |some (j,want)=>match(all[j]?).bind (·.dst)with
  |none=>none
  |some d=>match st.tmps.f d with
   |.data .bool b=>some (b==want)
   |.tup []=>some false
   |_=>none
theorem kT{R:Type}{all:List Oper}{g:Option (Nat×Bool)}{st:St}{yes no:St→Option R}{r:R}(h:guarded R all g st yes no=some r):
  (D3 all g st=some true∧yes st=some r)∨(D3 all g st=some false∧no st=some r):=by
 unfold guarded at h;unfold D3;split at h;grind
 ·rename_i j want;split at h;cases h
  ·rename_i d hj;simp only[hj];split at h
   ·rename_i b hd;have hs:=Tm.Lx hd;simp only[hd];split at h;·rw[hs]at h;split at h;all_goals simp_all
    ·rw[hs]at h;split at h;all_goals simp_all
   all_goals grind
def Kn(E:Env)(H:List Ob)(ρ:Operand→AV)(o:Op)(φ:List Nat):Prop:=(Lm φ=true∧KZ E ρ o φ H=true)∨(within (Jt ρ o) φ=true∧ND (ED ρ o) φ=true∧FV E ρ o=true)
def C_(P:Program)(E:Env)(all:List Oper)(o:Oper)(φ:List Nat)(slot:Nat)(st st1:St):Prop:=
 (D3 all o.guard st=some true∧∃ v e,(Kk φ=true∨(Kn E st.heap (BY st.tmps) o.op φ∧Qx (writer o.op||Lm φ) φ slot (slotsOf o.op) e=true)) ∧
  (∀ (R:Type) (k:AV→Eff→Option R),evalOp P E R o.op o.type (BY st.tmps) st.heap st.frz slot k=k v e)∧st1=(st.app e).put o.dst v) ∨
 (D3 all o.guard st=some false∧st1=st.put o.dst CK)
theorem W0(hE:∀ g,BV P g (E.spec g)){R:Type}{all:List Oper}{o:Oper}{φ:List Nat}{slot:Nat}{st:St}{k:St→Option R}{r:R}(h:Pa P E R all o φ slot st k=some r):
  ∃ st1,C_ P E all o φ slot st st1∧k st1=some r:=by
 unfold Pa at h;rcases kT h with⟨hg,h⟩|⟨hg,h⟩
 split at h;rename_i hw;simp only[AYe,AXd]at hw;obtain⟨v,e,h1,h2,_⟩:=Eg hE o.op R _ _ _ _ _ _ _ h;split at h1;rename_i he;rw[AYe]at he;refine⟨_,.inl ⟨hg,v,e,?_,h2,rfl⟩,h1⟩;rcases hw with hw|hw;grind;rcases he with he|he;grind;refine .inr ⟨?_,he⟩;rcases hw with hw|hw;exact .inl hw;exact .inr ⟨hw.2.1.1,hw.2.1.2,hw.2.2⟩;grind;grind;exact⟨_,.inr ⟨hg,rfl⟩,h⟩
def HS(P:Program)(E:Env)(all:List Oper)(fp:Nat→List Nat)(sl:Nat→Nat):List Nat→St→St→Prop
 |[],st,st'=>st=st'
 |i::l,st,st'=>∃ o s1,all[i]? = some o∧C_ P E all o (fp i) (sl i) st s1∧HS P E all fp sl l s1 st'
def Bz(all:List Oper)(base i:Nat):Nat:=base+Cq (all.take i)
theorem IQ(a b:List Oper):Cq (a++b)=Cq a+Cq b:=by
 unfold Cq;induction a with
  |nil=>simp
  |cons x a ih=>grind
theorem aX(hE:∀ g,BV P g (E.spec g)){R:Type}{all:List Oper}{fp:List (List Nat)}{base:Nat}{k:St→Option R}{r:R}:∀ (rest pre:List Oper) (fp':List (List Nat)) (slot:Nat) (st:St),
  all=pre++rest→fp'=fp.drop pre.length→slot=Bz all base pre.length→JA P E R all rest fp' slot st k=some r →
  ∃ st',HS P E all (fun i=>fp.getD i []) (Bz all base) (List.range' pre.length rest.length) st st'∧k st'=some r:=by
 intro rest;induction rest with
  |nil=>intro pre fp' slot st _ _ _ h;exact⟨st,rfl,h⟩
  |cons o rest ih=>
   intro pre fp' slot st hall hfp hsl h;simp only[JA]at h;obtain⟨s1,h1,h2⟩:=W0 hE h;have hlen:(pre++[o]).length=pre.length+1:=by simp
   have hfp1:fp'.headD []=fp.getD pre.length []:=by simp_all
   have hfp2:fp'.tail=fp.drop (pre++[o]).length:=by simp_all
   have hs2:slot+slotsOf o.op=Bz all base (pre++[o]).length:=by
    rw[hsl,hlen];unfold Bz;have e1:all.take (pre.length+1)=pre++[o]:=by grind
    have e2:all.take pre.length=pre:=by grind
    rw[e1,e2,IQ];simp[Cq];omega
   obtain⟨st',h3,h4⟩:=ih (pre++[o]) _ _ s1 (by grind) hfp2 hs2 h2;refine⟨st',?_,h4⟩;rw[AXg,AYz];refine⟨o,s1,by grind,?_,by grind⟩;grind
theorem TH:∀ (l:List (Nat×Ob)) (H:List Ob),(Br l H).length=H.length:=by
 intro l;induction l with
  |nil=>intro H;rfl
  |cons p l ih=>intro H;obtain⟨i,o⟩:=p;simp only[Br];grind
theorem CO{i:Nat}:∀ (l:List (Nat×Ob)) (H:List Ob),(∀ p∈l,p.1≠i)→(Br l H)[i]? = H[i]? := by
 intro l;induction l with
  |nil=>intro H _;rfl
  |cons p l ih=>intro H h;obtain⟨j,o⟩:=p;simp only[Br];simp_all
theorem Gd{i:Nat}:∀ (l:List (Nat×Ob)) (H H':List Ob),H[i]? = H'[i]?→(Br l H)[i]? = (Br l H')[i]? := by
 intro l;induction l with
  |nil=>intro H H' h;exact h
  |cons p l ih=>intro H H' h;obtain⟨j,o⟩:=p;simp only[Br];refine ih _ _ ?_;by_cases hij:i=j;all_goals grind
theorem jE(a b:List (Nat×Ob))(h:∀ p∈a,∀ q∈b,p.1≠q.1)(H:List Ob):Br a (Br b H)=Br b (Br a H):=by
 apply AZT;intro i;by_cases ha:∀ p∈a,p.1≠i;rw[CO a _ ha];exact Gd b _ _ (CO a _ ha).symm;have hb:∀ q∈b,q.1≠i:=by grind
 rw[CO b _ hb];exact Gd a _ _ (CO b _ hb)
theorem oi(a b:List Nat)(fz:List Bool):BI a (BI b fz)=BI b (BI a fz):=by
 apply AZT;intro i;have hl:∀ (x:List Bool) (y:List Bool),x.length=y.length→(∀ i,x.getD i false=y.getD i false)→x[i]? = y[i]? := by intro x y hlen hg;have:=hg i;grind
 refine hl _ _ (by simp[Dn]) fun i => ?_;rw[Bh,Bh,Bh,Bh,Dn,Dn];grind
theorem WW{l φ:List Nat}(h:within l φ=true){i:Nat}(hi:i∈l):rd φ i=true:=by unfold within at h;grind
theorem nq{l φ:List Nat}(h:ND l φ=true){i:Nat}(hi:i∈l):wt φ i=true:=by unfold ND at h;grind
theorem Jz{φ:List Nat}{i:Nat}(h:wt φ i=true):rd φ i=true:=by unfold wt at h;unfold rd;grind
theorem LJ{wr:Bool}{φ:List Nat}{slot n:Nat}{e:Eff}(h:Qx wr φ slot n e=true):e.heap=none∧(∀ p∈e.objs,(slot≤p.1∧p.1<slot+n)∨(wr=true∧wt φ p.1=true))∧∀ i∈e.frz,rd φ i=true:=by unfold Qx at h;simp only[AXd]at h;obtain⟨⟨h1,h2⟩,h3⟩:=h;refine⟨by simp_all,fun p hp => ?_,fun i hi=>WW h3 hi⟩;grind
theorem C4{e:Eff}(h:e.heap=none)(H:List Ob):Cy e H=Br e.objs H:=by unfold Cy;rw[h]
theorem DG{e:Eff}(h:e.heap=none)(F:List Bool):Ev e F=BI e.frz F:=by unfold Ev;rw[h]
theorem Ca{all:List Oper}{x y:Oper}(hap:apart? all x y=true)(st:St)(v:AV):∀ z∈y.op.operands,BY (st.put x.dst v).tmps z=BY st.tmps z:=by
 obtain⟨h1,_,_⟩:=Oper.apart_spec hap;intro z hz;cases hd:x.dst with
  |none=>rfl
  |some d=>
   cases z with
    |tmp t=>
     have hne:d≠t:=by rintro rfl;refine h1 d hd ?_;unfold Oper.looksAt;refine List.mem_append_left _ ?_;rw[List.mem_filterMap];exact⟨.tmp d,by grind,rfl⟩
     simp[BY,St.put,Tm.TG,AYm hne]
    |const v=>rfl
    |global g=>rfl
    |func f=>rfl
theorem G3{all:List Oper}{x y:Oper}(hap:apart? all x y=true)(st:St)(v:AV)(H:List Ob)(F:List Bool):D3 all y.guard ({ st with heap:=H,frz:=F }.put x.dst v)=D3 all y.guard st:=by
 obtain⟨h1,_,_⟩:=Oper.apart_spec hap;unfold D3;cases hg:y.guard with
  |none=>rfl
  |some p=>
   obtain⟨j,want⟩:=p;dsimp only;cases hj:(all[j]?).bind (·.dst)with
    |none=>rfl
    |some d=>
     dsimp only;cases hd:x.dst with
      |none=>rfl
      |some d'=>
       have hne:d'≠d:=by rintro rfl;refine h1 d' hd ?_;unfold Oper.looksAt;grind
       simp[St.put,Tm.TG,AYm hne]
theorem St.put_comm(st:St){x y:Option Tmp}(v u:AV)(h:∀ d,x=some d→y≠some d):(st.put x v).put y u=(st.put y u).put x v:=by
 cases x with
  |none=>rfl
  |some d=>
   cases y with
    |none=>rfl
    |some d'=>have hne:d≠d':=fun e=>h d rfl (by rw[e]);simp only[St.put];rw[Tm.set_comm _ _ _ hne]
theorem St.Hg(st:St)(e:Eff)(d:Option Tmp)(v:AV):(st.put d v).app e=(st.app e).put d v:=by cases d<;>rfl
theorem AND{φ:List Nat}{i:Nat}(h:rd φ i=true):∃ c∈φ,c/2=i:=by unfold rd at h;grind
theorem MM{all:List Oper}{x y:Oper}{φx φy:List Nat}{sx sy:Nat}(h:indep all x y φx φy sx sy=true):
  apart? all x y=true∧((Lm φx=false∧Lm φy=false∧WC x.op y.op=true)∨(Kk φx=true∧Cc y.op=true)∨(Kk φy=true∧Cc x.op=true)∨Kk φx=false∧Kk φy=false∧(∀ i,rd φy i=true→¬ (sx≤i∧i<sx+slotsOf x.op))∧(∀ i,rd φx i=true→¬ (sy≤i∧i<sy+slotsOf y.op))∧(∀ i,wt φx i=true→rd φy i=true→False)∧(∀ i,wt φy i=true→rd φx i=true→False)):=by
 unfold indep at h;rw[AXd]at h;obtain⟨h1,h⟩:=h;refine⟨h1,?_⟩;simp only[AYe,AXd,AYj]at h;rcases h with((h|h)|h)|h;grind;grind;rotate_left;grind;obtain⟨⟨⟨⟨⟨hx,hy⟩,h2⟩,h3⟩,h4⟩,h5⟩:=h;refine .inr (.inr (.inr ⟨hx,hy,?_⟩));rw[AXy]at h2 h3 h4 h5;have own:∀ {φ:List Nat} {s n:Nat},(∀ c∈φ,(!(decide (s≤c/2)&&decide (c/2<s+n)))=true)→∀ i,rd φ i=true→¬ (s≤i∧i<s+n):=by intro φ s n h i hi;obtain⟨c,hc,rfl⟩:=AND hi;grind
 have wr:∀ {φ ψ:List Nat},(∀ c∈φ,(decide (c % 2=0) || !(rd ψ (c/2)))=true)→∀ i,wt φ i=true→rd ψ i=true→False:=by intro φ ψ h i hi hr;unfold wt at hi;grind
 grind
theorem Iw{all:List Oper}{x y:Oper}(h:apart? all x y=true):apart? all y x=true:=by obtain⟨h1,h2,h3⟩:=Oper.apart_spec h;unfold apart? Oper.apart;grind
theorem bN{φ:List Nat}{H H':List Ob}(h:∀ i,rd φ i=true→H[i]? = H'[i]?):Ng φ H=Ng φ H':=by
 unfold Ng;rw[AZ5,AXy,AXy];have e:∀ c∈φ,H[c/2]? = H'[c/2]? := by intro c hc;refine h _ ?_;unfold rd;grind
 grind
theorem lp{ρ:Operand→AV}{o:Op}{φ:List Nat}{H H':List Ob}(h:∀ i,rd φ i=true→H[i]? = H'[i]?)(hk:Kn E H ρ o φ):Kn E H' ρ o φ:=by rcases hk with⟨h1,h2⟩|hk;refine .inl ⟨h1,?_⟩;unfold KZ at *;rw[← bN h];exact h2;exact .inr hk
theorem ee{x:Oper}{φx φy:List Nat}{sx:Nat}(h1:∀ i,rd φy i=true→¬ (sx≤i∧i<sx+slotsOf x.op))(h3:∀ i,wt φx i=true→rd φy i=true→False){st:St}{vx:AV}{ex:Eff}{bx:Bool}(hex:Qx bx φx sx (slotsOf x.op) ex=true):
  ∀ i,rd φy i=true→((st.app ex).put x.dst vx).heap[i]? = st.heap[i]? := by
 intro i hi;obtain⟨q1,q2,q3⟩:=LJ hex;have hheap:((st.app ex).put x.dst vx).heap=Br ex.objs st.heap:=by cases x.dst<;>exact C4 q1 _
 rw[hheap];refine CO _ _ fun p hp => ?_;grind
theorem cp(hL:EV E){all:List Oper}{x y:Oper}{φx φy:List Nat}{sx sy:Nat}(hap:apart? all x y=true)(h1:∀ i,rd φy i=true→¬ (sx≤i∧i<sx+slotsOf x.op))
  (h2:∀ i,rd φx i=true→¬ (sy≤i∧i<sy+slotsOf y.op)) (h3:∀ i,wt φx i=true→rd φy i=true→False) (h4:∀ i,wt φy i=true→rd φx i=true→False) (hsl:sx+slotsOf x.op≤sy∨sy+slotsOf y.op≤sx)
  {st:St} {vx:AV} {ex:Eff} {bx:Bool} (hex:Qx bx φx sx (slotsOf x.op) ex=true) (hk:Kn E ((st.app ex).put x.dst vx).heap (BY st.tmps) y.op φy∨Kn E st.heap (BY st.tmps) y.op φy) :
  ∀ (R:Type) (k:AV→Eff→Option R),evalOp P E R y.op y.type (BY ((st.app ex).put x.dst vx).tmps) ((st.app ex).put x.dst vx).heap ((st.app ex).put x.dst vx).frz sy k=evalOp P E R y.op y.type (BY st.tmps) st.heap st.frz sy k:=by
 intro R k;obtain⟨q1,q2,q3⟩:=LJ hex;have hput:∀ z∈y.op.operands,BY ((st.app ex).put x.dst vx).tmps z=BY st.tmps z:=fun z hz=>by have:=Ca hap (st.app ex) vx z hz;exact this
 have hheap:((st.app ex).put x.dst vx).heap=Br ex.objs st.heap:=by cases x.dst<;>exact C4 q1 _
 have hfrz:((st.app ex).put x.dst vx).frz=BI ex.frz st.frz:=by cases x.dst<;>exact DG q1 _
 rw[hheap]at hk;rw[hheap,hfrz];have hsame:∀ i,rd φy i=true→(Br ex.objs st.heap)[i]? = st.heap[i]? := by intro i hi;refine CO _ _ fun p hp => ?_;grind
 have hkn:Kn E st.heap (BY st.tmps) y.op φy:=hk.elim (fun h=>lp hsame h) fun h=>h;rcases hkn with⟨_,hw⟩|⟨hw,hww,hl⟩
 rw[Ci y.op y.type _ _ sy k hput];symm;have wtS:∀ c∈φy,wt φy (c/2)=true:=by intro c hc;unfold KZ at hw;simp only[AXd]at hw;have:=hw.1.2;rw[AXy]at this;have:=this c hc;simp only[AY1]at this;unfold wt;grind
 refine sc hL y.op y.type k hw ⟨fun id hid => ?_,fun s a1 a2 => ?_,fun s a1 a2 => ?_,(Dn _ _).symm,fun id hid => ?_⟩;obtain⟨c,hc,rfl⟩:=AYE.1 hid;exact(hsame _ (Jz (wtS c hc))).symm;symm;refine CO _ _ fun p hp => ?_;rintro rfl;rcases q2 p hp with h|⟨hwx,h⟩
 omega;exact h2 _ (Jz h) ⟨a1,a2⟩;rw[Bh];grind;obtain⟨c,hc,rfl⟩:=AYE.1 hid;rw[Bh];grind;have hag:RX (Jt (BY st.tmps) y.op) sy (slotsOf y.op) (ED (BY st.tmps) y.op) (Br ex.objs st.heap) st.heap (BI ex.frz st.frz) st.frz:=by
  refine⟨fun id hid => ?_,fun s a1 a2 => ?_,fun s a1 a2 => ?_,Dn _ _,fun id hid => ?_⟩;have hφ:=WW hw hid;grind;refine CO _ _ fun p hp => ?_;rintro rfl;rcases q2 p hp with h|⟨hwx,h⟩
  omega;exact h2 _ (Jz h) ⟨a1,a2⟩;rw[Bh];grind;rw[Bh];have hφ:=nq hww hid;grind
 rw[Ci y.op y.type _ _ sy k hput];exact kl hL y.op y.type k hag hl
theorem iX{ρ ρ':Operand→AV}{o:Op}(h:∀ z∈o.operands,ρ z=ρ' z):ED ρ o=ED ρ' o:=by
 unfold ED;split;rw[h _ (by simp[Op.operands])];rw[h _ (by simp[Op.operands])];rw[h _ (by simp[Op.operands])];rw[h _ (by simp[Op.operands])];rw[h _ (by simp[Op.operands])];rename_i args ts;cases ha:args.toList with
  |nil=>rfl
  |cons s r=>
   have:s∈args:=by
    have:s∈args.toList:=by grind
    grind
   simp only;rw[h s (by simp[Op.operands,Call.operands];omega)]
 rename_i args ts;cases ha:args.toList with
  |nil=>rfl
  |cons s r=>
   have:s∈args:=by
    have:s∈args.toList:=by grind
    grind
   simp only;rw[h s (by simp[Op.operands,Call.operands];omega)]
 rfl
theorem Ki{ρ ρ':Operand→AV}{o:Op}(h:∀ z∈o.operands,ρ z=ρ' z):HE ρ o=HE ρ' o:=by
 unfold HE;have key:∀ l:List Operand,(∀ z∈l,ρ z=ρ' z)→(l.flatMap fun x=>BS (ρ x))=l.flatMap fun x=>BS (ρ' x):=by
  intro l;induction l with
   |nil=>simp
   |cons x l ih=>grind
 grind
theorem oI{ρ ρ':Operand→AV}{o:Op}(h:∀ z∈o.operands,ρ z=ρ' z):Jt ρ o=Jt ρ' o:=by
 cases o with
  |store T x y=>simp only[Jt];rw[h x (by simp[Op.operands]),Ki h]
  |move x=>rfl
  |assign x=>rfl
  |pick c a b=>rfl
  |extract x i=>rfl
  |build T ps=>rfl
  |makeFunc f a b=>rfl
  |_=>exact Ki h
theorem ah{ρ ρ':Operand→AV}{o:Op}(h:∀ z∈o.operands,ρ z=ρ' z):FV E ρ o=FV E ρ' o:=by unfold FV;split;rename_i f args ts;rw[h f (by simp[Op.operands,Call.operands])];rfl
theorem G9{H:List Ob}{ρ ρ':Operand→AV}{o:Op}{φ:List Nat}(h:∀ z∈o.operands,ρ z=ρ' z)(hk:Kn E H ρ o φ):Kn E H ρ' o φ:=by
 rcases hk with⟨h0,hk⟩|⟨h1,h2,h3⟩
 refine .inl ⟨h0,?_⟩;have e:SA E ρ o=SA E ρ' o:=by unfold SA;split;rename_i f args ts;rw[h f (by simp[Op.operands,Call.operands])];rfl
 unfold KZ at *;rw[← e,← Ki h];exact hk;rw[oI h]at h1;rw[iX h]at h2;rw[ah h]at h3;exact .inr ⟨h1,h2,h3⟩
theorem N2{R:Type}{o:Op}(h:Cc o=true)(ty:TypeId)(ρ:Operand→AV)(H H':List Ob)(fz fz':List Bool)(slot:Nat)(k:AV→Eff→Option R):
  evalOp P E R o ty ρ H fz slot k=evalOp P E R o ty ρ H' fz' slot k:=by cases o<;>first|rfl|(simp only[Cc,AXw]at h)
theorem LF{o:Op}(h:Cc o=true)(ty:TypeId)(ρ:Operand→AV)(H:List Ob)(fz:List Bool)(slot:Nat){v:AV}{e:Eff}
  (hk:∀ (R:Type) (k:AV→Eff→Option R),evalOp P E R o ty ρ H fz slot k=k v e):e = {}:=by
 have:=hk Eff (fun _ e=>some e);cases o<;>first|(simp only[Cc,AXw]at h;done)|skip
 all_goals
  simp only[evalOp,Sf,DO,Se,KI]at this
  grind
theorem Mh{o:Op}(h:DV o=true)(ty:TypeId)(ρ:Operand→AV)(H:List Ob)(fz:List Bool)(slot:Nat){v:AV}{e:Eff}
  (hk:∀ (R:Type) (k:AV→Eff→Option R),evalOp P E R o ty ρ H fz slot k=k v e):e = {}:=by
 by_cases hh:Cc o=true;exact LF hh ty ρ H fz slot hk;have:=hk Eff (fun _ e=>some e);cases o with
  |call c=>
   obtain⟨callee,args,ts⟩:=c;cases callee with
    |builtin b=>
     cases b<;>first|(simp only[DV,Cc,AXw]at h;done)|skip
     simp only[evalOp,Mc]at this;grind
    |_=>simp only[DV,Cc,AXw]at h
  |slice T x lo hi mx=>
   cases mx with
    |some m=>simp only[DV,Cc,AXw]at h
    |none=>
     simp only[evalOp,DN,Gc]at this;repeat' split at this
     all_goals grind
  |makeFunc fn first cs=>
   cases fn<;>first|(simp only[DV,Cc,AXw]at h;done)|skip
   simp only[evalOp,E_]at this;grind
  |load _ _|convert _ _ _|fieldAddr _ _ _|field _ _ _|indexAddr _ _ _|index _ _ _|nilCheck _|lookup _ _ _ _|build _ _=>
   simp only[evalOp,LH,GR,Qr,Dk,LG,CH,Jm,EM,DU]at this;repeat' split at this
   all_goals first|(cases this;done)|(simp only[AXa]at this;exact this.symm)
  |_=>first|exact absurd h hh|(simp only[DV,Cc,AXw]at h;done)|exact absurd rfl hh
theorem AFh{H:List Ob}{ρ:Operand→AV}{o:Op}{φ:List Nat}(h:Cc o=true)(hk:Kn E H ρ o φ):within (Jt ρ o) φ=true∧ND (ED ρ o) φ=true∧FV E ρ o=true:=by rcases hk with⟨_,hk⟩|hk;exfalso;unfold KZ at hk;simp only[AXd]at hk;have:=hk.2;unfold SA at this;split at this;cases h;grind;omega
theorem xc{all:List Oper}{x y:Oper}{φx φy:List Nat}{sx sy:Nat}(hap:apart? all x y=true)(hn:Kk φx=true)(hl:Cc y.op=true)
  {st s1 s2:St} (hx:C_ P E all x φx sx st s1) (hy:C_ P E all y φy sy s1 s2):∃ s1',C_ P E all y φy sy st s1'∧C_ P E all x φx sx s1' s2:=by
 have hap':=Iw hap;obtain⟨_,hdd,_⟩:=Oper.apart_spec hap;have gx:∀ (v:AV) (H:List Ob) (F:List Bool) (s:St),D3 all y.guard ({ s with heap:=H,frz:=F }.put x.dst v)=D3 all y.guard s:=fun v H F s=>G3 hap s v H F;have gy:∀ (v:AV) (H:List Ob) (F:List Bool) (s:St),D3 all x.guard ({ s with heap:=H,frz:=F }.put y.dst v)=D3 all x.guard s:=fun v H F s=>G3 hap' s v H F;have first:∀ (s1:St),(∀ z∈y.op.operands,BY s1.tmps z=BY st.tmps z)→D3 all y.guard s1=D3 all y.guard st→C_ P E all y φy sy s1 s2→∃ vy,C_ P E all y φy sy st (st.put y.dst vy)∧s2=s1.put y.dst vy:=by
  intro s1 hput hg hy;rcases hy with⟨g2,vy,ey,hqy,b3,rfl⟩|⟨g2,rfl⟩
  have he:=LF hl _ _ _ _ _ b3;subst he;refine⟨vy,.inl ⟨by grind,vy,{},?_,fun R k => ?_,rfl⟩,rfl⟩;rcases hqy with h|⟨h1,h4⟩
  grind;exact .inr ⟨.inr (AFh hl (G9 hput h1)),h4⟩;rw[← b3 R k,Ci y.op y.type _ _ sy k hput];exact N2 hl _ _ _ _ _ _ _ _;exact⟨CK,.inr ⟨by grind,rfl⟩,rfl⟩
 have put1:∀ (v:AV) (s:St),∀ z∈y.op.operands,BY (s.put x.dst v).tmps z=BY s.tmps z:=fun v s z hz=>Ca hap s v z hz;rcases hx with⟨g1,vx,ex,hqx,a3,rfl⟩|⟨g1,rfl⟩
 obtain⟨vy,h1,rfl⟩:=first _ (put1 vx (st.app ex)) (gx vx (Cy ex st.heap) (Ev ex st.frz) st) hy
 refine⟨_,h1,.inl ⟨?_,vx,ex,.inl hn,fun R k => ?_,?_⟩⟩;simp_all;have hh:(st.put y.dst vy).heap=st.heap∧(st.put y.dst vy).frz=st.frz:=by cases y.dst<;>exact⟨rfl,rfl⟩
 rw[hh.1,hh.2,Ci x.op x.type _ _ sx k fun z hz=>Ca hap' st vy z hz];grind;rw[St.Hg,St.put_comm _ vx vy hdd];obtain⟨vy,h1,rfl⟩:=first _ (put1 CK st) (gx CK st.heap st.frz st) hy
 refine⟨_,h1,.inr ⟨?_,?_⟩⟩;simp_all;rw[St.put_comm _ CK vy hdd]
theorem xb{all:List Oper}{x y:Oper}{φx φy:List Nat}{sx sy:Nat}(hap:apart? all x y=true)(hn:Kk φy=true)(hl:Cc x.op=true)
  {st s1 s2:St} (hx:C_ P E all x φx sx st s1) (hy:C_ P E all y φy sy s1 s2):∃ s1',C_ P E all y φy sy st s1'∧C_ P E all x φx sx s1' s2:=by
 have hap':=Iw hap;obtain⟨_,hdd,_⟩:=Oper.apart_spec hap;have gx:∀ (v:AV) (s:St),D3 all y.guard (s.put x.dst v)=D3 all y.guard s:=fun v s=>G3 hap s v s.heap s.frz;have gy:∀ (v:AV) (H:List Ob) (F:List Bool) (s:St),D3 all x.guard ({ s with heap:=H,frz:=F }.put y.dst v)=D3 all x.guard s:=fun v H F s=>G3 hap' s v H F;have hh:∀ v:AV,(st.put x.dst v).heap=st.heap∧(st.put x.dst v).frz=st.frz:=fun v=>by cases x.dst<;>exact⟨rfl,rfl⟩
 have behind:∀ (s:St) (vx:AV),(∀ z∈x.op.operands,BY s.tmps z=BY st.tmps z)→D3 all x.guard s=D3 all x.guard st→C_ P E all x φx sx st (st.put x.dst vx)→(∃ v,C_ P E all x φx sx st (st.put x.dst v)):=fun s vx _ _ h=>⟨vx,h⟩
 have xs:∃ vx,s1=st.put x.dst vx∧∀ s:St,(∀ z∈x.op.operands,BY s.tmps z=BY st.tmps z)→D3 all x.guard s=D3 all x.guard st→C_ P E all x φx sx s (s.put x.dst vx):=by
  rcases hx with⟨g1,vx,ex,hqx,a3,rfl⟩|⟨g1,rfl⟩
  have he:=LF hl _ _ _ _ _ a3;subst he;refine⟨vx,rfl,fun s hput hg=>.inl ⟨by grind,vx,{},?_,fun R k => ?_,rfl⟩⟩;rcases hqx with h|⟨h1,h4⟩
  grind;exact .inr ⟨.inr (AFh hl (G9 (fun z hz=>(hput z hz).symm) h1)),h4⟩;rw[← a3 R k,Ci x.op x.type _ _ sx k hput];exact N2 hl _ _ _ _ _ _ _ _;exact⟨CK,rfl,fun s _ hg=>.inr ⟨by grind,rfl⟩⟩
 obtain⟨vx,rfl,hxs⟩:=xs;have hput:∀ z∈y.op.operands,BY (st.put x.dst vx).tmps z=BY st.tmps z:=fun z hz=>Ca hap st vx z hz;rcases hy with⟨g2,vy,ey,hqy,b3,rfl⟩|⟨g2,rfl⟩
 refine⟨(st.app ey).put y.dst vy,.inl ⟨by grind,vy,ey,.inl hn,fun R k => ?_,rfl⟩,?_⟩;have:=b3 R k;rw[(hh vx).1,(hh vx).2,Ci y.op y.type _ _ sy k hput]at this;omega;have:=hxs ((st.app ey).put y.dst vy) (fun z hz=>Ca hap' (st.app ey) vy z hz) (gy vy (Cy ey st.heap) (Ev ey st.frz) st);rw[St.Hg,St.put_comm _ vx vy hdd];omega;refine⟨st.put y.dst CK,.inr ⟨by grind,rfl⟩,?_⟩;have:=hxs (st.put y.dst CK) (fun z hz=>Ca hap' st CK z hz) (gy CK st.heap st.frz st);rw[St.put_comm _ vx CK hdd];omega
theorem xd(hL:EV E){all:List Oper}{x y:Oper}{φx φy:List Nat}{sx sy:Nat}(hap:apart? all x y=true)(n1:Kk φx=false)(n2:Kk φy=false)(i1:∀ i,rd φy i=true→¬ (sx≤i∧i<sx+slotsOf x.op))(i2:∀ i,rd φx i=true→¬ (sy≤i∧i<sy+slotsOf y.op))(i3:∀ i,wt φx i=true→rd φy i=true→False)(i4:∀ i,wt φy i=true→rd φx i=true→False)(hsl:sx+slotsOf x.op≤sy)
  {st s1 s2:St} (hx:C_ P E all x φx sx st s1) (hy:C_ P E all y φy sy s1 s2):∃ s1',C_ P E all y φy sy st s1'∧C_ P E all x φx sx s1' s2:=by
 have hap':=Iw hap;obtain⟨_,hdd,_⟩:=Oper.apart_spec hap;have gx:∀ (v:AV) (H:List Ob) (F:List Bool) (s:St),D3 all y.guard ({ s with heap:=H,frz:=F }.put x.dst v)=D3 all y.guard s:=fun v H F s=>G3 hap s v H F;have gy:∀ (v:AV) (H:List Ob) (F:List Bool) (s:St),D3 all x.guard ({ s with heap:=H,frz:=F }.put y.dst v)=D3 all x.guard s:=fun v H F s=>G3 hap' s v H F;have gxa:∀ v e,D3 all y.guard ((st.app e).put x.dst v)=D3 all y.guard st:=fun v e=>gx v (Cy e st.heap) (Ev e st.frz) st;have gya:∀ v e,D3 all x.guard ((st.app e).put y.dst v)=D3 all x.guard st:=fun v e=>gy v (Cy e st.heap) (Ev e st.frz) st;rcases hx with⟨g1,vx,ex,hqx,a3,rfl⟩|⟨g1,rfl⟩
 obtain⟨a1,a4⟩:=hqx.resolve_left (by grind);rcases hy with⟨g2,vy,ey,hqy,b3,rfl⟩|⟨g2,rfl⟩
 obtain⟨b1,b4⟩:=hqy.resolve_left (by grind);have hput:∀ z∈y.op.operands,BY ((st.app ex).put x.dst vx).tmps z=BY st.tmps z:=fun z hz=>Ca hap (st.app ex) vx z hz;have b1:=G9 hput b1;have ov:=cp (P:=P) hL hap i1 i2 i3 i4 (.inl hsl) (vx:=vx) a4 (.inl b1);refine⟨(st.app ey).put y.dst vy,.inl ⟨by grind,vy,ey,.inr ⟨lp (ee i1 i3 a4) b1,b4⟩,fun R k=>by grind,rfl⟩,?_⟩;have hput':∀ z∈x.op.operands,BY ((st.app ey).put y.dst vy).tmps z=BY st.tmps z:=fun z hz=>Ca hap' (st.app ey) vy z hz;have ov':=cp (P:=P) hL hap' i2 i1 i4 i3 (.inr hsl) (st:=st) (vx:=vy) b4 (.inr a1);refine .inl ⟨by grind,vx,ex,.inr ⟨G9 (fun z hz=>(hput' z hz).symm) (lp (fun i hi=>(ee i2 i4 b4 i hi).symm) a1),a4⟩,fun R k=>by grind,?_⟩;obtain⟨p1,p2,p3⟩:=LJ a4;obtain⟨r1,r2,r3⟩:=LJ b4;have hdis:∀ p∈ey.objs,∀ q∈ex.objs,p.1≠q.1:=by
  intro p hp q hq he;rcases r2 p hp with h|⟨hw,h⟩<;>rcases p2 q hq with h'|⟨hw',h'⟩
  omega;exact i2 _ (Jz h') (he▸h);exact i1 _ (Jz h) (he▸h');exact i3 _ h' (he▸Jz h)
 rw[St.Hg,St.Hg,St.put_comm _ vx vy hdd];congr 2;unfold St.app;rw[C4 p1,C4 r1,DG p1,DG r1,C4 r1,C4 p1,DG r1,DG p1,jE _ _ hdis,oi];refine⟨st.put y.dst CK,.inr ⟨by grind,rfl⟩,.inl ⟨?_,vx,ex,.inr ⟨?_,a4⟩,fun R k => ?_,?_⟩⟩;simp_all;have hh:(st.put y.dst CK).heap=st.heap:=by cases y.dst<;>rfl
 rw[hh];exact G9 (fun z hz=>(Ca hap' st CK z hz).symm) a1;have hh:(st.put y.dst CK).heap=st.heap∧(st.put y.dst CK).frz=st.frz:=by cases y.dst<;>exact⟨rfl,rfl⟩
 rw[hh.1,hh.2,Ci x.op x.type _ _ sx k fun z hz=>Ca hap' st CK z hz];grind;rw[St.Hg,St.put_comm _ vx CK hdd];rcases hy with⟨g2,vy,ey,hqy,b3,rfl⟩|⟨g2,rfl⟩
 obtain⟨b1,b4⟩:=hqy.resolve_left (by grind);have hh:(st.put x.dst CK).heap=st.heap∧(st.put x.dst CK).frz=st.frz:=by cases x.dst<;>exact⟨rfl,rfl⟩
 rw[hh.1]at b1;have hput:∀ z∈y.op.operands,BY (st.put x.dst CK).tmps z=BY st.tmps z:=fun z hz=>Ca hap st CK z hz;have b1:=G9 hput b1;refine⟨(st.app ey).put y.dst vy,.inl ⟨by simp_all,vy,ey,.inr ⟨b1,b4⟩,fun R k => ?_,rfl⟩,.inr ⟨by grind,?_⟩⟩;have:=b3 R k;rw[hh.1,hh.2,Ci y.op y.type _ _ sy k hput]at this;omega;rw[St.Hg,St.put_comm _ CK vy hdd]
 exact⟨st.put y.dst CK,.inr ⟨by simp_all,rfl⟩,
  .inr ⟨by simp_all,St.put_comm _ CK CK hdd⟩⟩
def AFf(H H':List Ob)(id:Nat):Prop:=(∃ a b es,H[id]? = some (.map a b es))∧∃ a b es,H'[id]? = some (.map a b es)
theorem FK{H H':List Ob}(h:∀ id,H[id]? = H'[id]?∨AFf H H' id)(t:Ty)(v:AV):ES H t v=ES H' t v:=by
 cases v<;>simp only[ES]
 ·rename_i id;rcases h id with h|⟨⟨a,b,es,h1⟩,a',b',es',h2⟩
  all_goals grind
 ·rename_i id off n;rcases h id with h|⟨⟨a,b,es,h1⟩,a',b',es',h2⟩
  all_goals grind
 ·rename_i id;rcases h id with h|⟨⟨a,b,es,h1⟩,a',b',es',h2⟩
  all_goals grind
theorem AJW{α:Type}{one one':List AV→Option (α×List Nat×List AV)}(h1:∀ cs,one cs=one' cs):∀ (n:Nat) (cs:List AV),QK one n cs=QK one' n cs:=by
 intro n;induction n with
  |zero=>intro cs;rfl
  |succ n ih=>intro cs;simp only[QK];grind
theorem kL{H H':List Ob}(h:∀ id,H[id]? = H'[id]?∨AFf H H' id):∀ (t:Ty) (cs:List AV),BW H t cs=BW H' t cs:=by
 intro t;induction t with
  |unit=>intro cs;cases cs<;>rfl
  |bool=>intro cs;cases cs with
   |nil=>rfl
   |cons c cs=>unfold BW;rw[FK h .bool c]
  |int k=>intro cs;cases cs with
   |nil=>rfl
   |cons c cs=>unfold BW;rw[FK h (.int k) c]
  |slice e _=>intro cs;cases cs with
   |nil=>rfl
   |cons c cs=>unfold BW;rw[FK h (.slice e) c]
  |nul e=>intro cs;cases cs with
   |nil=>rfl
   |cons c cs=>unfold BW;rw[FK h (.nul e) c]
  |mapi j e _=>intro cs;cases cs with
   |nil=>rfl
   |cons c cs=>unfold BW;rw[FK h (.mapi j e) c]
  |prod a b iha ihb=>intro cs;simp only[BW];grind
  |arr n e ih=>intro cs;simp only[BW];exact AJW ih n cs
theorem AK5{H H':List Ob}(h:∀ id,H[id]? = H'[id]?∨AFf H H' id)(t:Ty)(v:AV):FM H t v=FM H' t v:=by unfold FM;split;cases v<;>simp only[asAgg];rename_i cs;rw[kL h t cs];exact FK h t v
theorem AJF{α β:Type}[DecidableEq α](es:List (α×β))(k j:α)(z:β):(BA (BP es k ((BA es k).getD z)) j).getD z=(BA es j).getD z:=by
 have key:∀ (es:List (α×β)) (v:β),BA (BP es k v) j=if j=k then some v else BA es j:=by
  intro es v;induction es with
   |nil=>simp only[BP,BA];grind
   |cons e es ih=>obtain⟨a,x⟩:=e;by_cases h1:a=k;subst h1;simp only[BP,BA,AX9];grind;simp only[BP,BA,h1,AXv,ih];grind
 grind
theorem j6{R:Type}{H:List Ob}{j:Nat}{a b:Ty}{es es':List (a.den×b.den)}(hj:H[j]? = some (.map a b es))(hval:∀ key:a.den,(BA (α:=a.den) es' key).getD b.zero=(BA (α:=a.den) es key).getD b.zero)
  (T:TypeId) (m x:Operand) (ty:TypeId) (ρ:Operand→AV) (fz fz':List Bool) (slot slot':Nat) (kk:AV→Eff→Option R) :
  evalOp P E R (.lookup T m x false) ty ρ (H.set j (.map a b es')) fz' slot' kk=evalOp P E R (.lookup T m x false) ty ρ H fz slot kk:=by
 have hlt:=BU hj;have hm:∀ id,(H.set j (.map a b es'))[id]? = H[id]?∨AFf (H.set j (.map a b es')) H id:=fun id=>by by_cases hid:id=j;subst hid;exact .inr ⟨⟨a,b,es',Bj hlt⟩,a,b,es,hj⟩;grind
 simp only[evalOp,EM,AK5 hm];cases P.underlying T with
  |none=>rfl
  |some d=>
   cases d with
    |map kt vt=>
     by_cases hmp:∃ id,ρ m = .mp id
     case neg=>
      grind
     obtain⟨id,hv⟩:=hmp;rw[hv];dsimp only;by_cases hid:id=j;all_goals grind
    |_=>rfl
theorem j4{H:List Ob}{fz:List Bool}{T:TypeId}{m x:Operand}{ty:TypeId}{ρ:Operand→AV}{slot:Nat}{v:AV}{e:Eff}(h:∀ (R:Type) (k:AV→Eff→Option R),evalOp P E R (.mapEntry T m x) ty ρ H fz slot k=k v e):
  ∃ id a b es,∃ key:a.den,H[id]? = some (.map a b es)∧e = { objs:=[(id,.map a b (BP (α:=a.den) es key ((BA (α:=a.den) es key).getD b.zero)))] }:=by have:=h Eff (fun _ e=>some e);simp only[evalOp,GQ]at this;grind
theorem AFg{H H':List Ob}{ρ:Operand→AV}{o:Op}{φ:List Nat}(hw:Lm φ=false)(hk:Kn E H ρ o φ):Kn E H' ρ o φ:=by rcases hk with⟨h1,_⟩|hk;grind;exact .inr hk
theorem xa{all:List Oper}{x y:Oper}{φx φy:List Nat}{sx sy:Nat}(hap:apart? all x y=true)(w1:Lm φx=false)(w2:Lm φy=false)(hm:WC x.op y.op=true)
  {st s1 s2:St} (hx:C_ P E all x φx sx st s1) (hy:C_ P E all y φy sy s1 s2):∃ s1',C_ P E all y φy sy st s1'∧C_ P E all x φx sx s1' s2:=by
 have hap':=Iw hap;obtain⟨_,hdd,_⟩:=Oper.apart_spec hap;obtain⟨T,m,kx,ok,hxo,T',m',ky,hyo,hok⟩:∃ T m kx ok,x.op = .lookup T m kx ok∧∃ T' m' ky,y.op = .mapEntry T' m' ky∧ok=false:=by cases hxo:x.op<;>cases hyo:y.op<;>rw[hxo,hyo]at hm<;>simp only[WC,AXw]at hm;grind
 subst hok;have gx:∀ (v:AV) (s:St),D3 all y.guard (s.put x.dst v)=D3 all y.guard s:=fun v s=>G3 hap s v s.heap s.frz;have gy:∀ (v:AV) (H:List Ob) (F:List Bool) (s:St),D3 all x.guard ({ s with heap:=H,frz:=F }.put y.dst v)=D3 all x.guard s:=fun v H F s=>G3 hap' s v H F;have hh:∀ v:AV,(st.put x.dst v).heap=st.heap∧(st.put x.dst v).frz=st.frz:=fun v=>by cases x.dst<;>exact⟨rfl,rfl⟩
 have xs:∃ vx,s1=st.put x.dst vx∧∀ s:St,(∀ z∈x.op.operands,BY s.tmps z=BY st.tmps z)→D3 all x.guard s=D3 all x.guard st →
   (s.heap=st.heap∨∃ j a b es es',st.heap[j]? = some (.map a b es)∧s.heap=st.heap.set j (.map a b es')∧∀ key:a.den,(BA (α:=a.den) es' key).getD b.zero=(BA (α:=a.den) es key).getD b.zero)→C_ P E all x φx sx s (s.put x.dst vx):=by
  rcases hx with⟨g1,vx,ex,hqx,a3,rfl⟩|⟨g1,rfl⟩
  ·have he:=Mh (by rw[hxo];rfl) _ _ _ _ _ a3
   subst he
   refine⟨vx,rfl,fun s hput hg hH=>.inl ⟨by grind,vx,{},?_,fun R k => ?_,rfl⟩⟩
   ·rcases hqx with h|⟨h1,h4⟩
    ·grind
    ·exact .inr ⟨AFg w1 (G9 (fun z hz=>(hput z hz).symm) h1),h4⟩
   ·rw[← a3 R k,Ci x.op x.type _ _ sx k hput]
    rcases hH with hH|⟨j,a,b,es,es',h1,h2,h3⟩
    ·rw[hH,hxo];rfl
    ·rw[h2,hxo]
     exact j6 h1 h3 _ _ _ _ _ _ _ _ _ _
  ·exact⟨CK,rfl,fun s _ hg _=>.inr ⟨by grind,rfl⟩⟩
 obtain⟨vx,rfl,hxs⟩:=xs;have hput:∀ z∈y.op.operands,BY (st.put x.dst vx).tmps z=BY st.tmps z:=fun z hz=>Ca hap st vx z hz;rcases hy with⟨g2,vy,ey,hqy,b3,rfl⟩|⟨g2,rfl⟩
 have b3':∀ (R:Type) (k:AV→Eff→Option R),evalOp P E R y.op y.type (BY st.tmps) st.heap st.frz sy k=k vy ey:=fun R k=>by have:=b3 R k;rw[(hh vx).1,(hh vx).2,Ci y.op y.type _ _ sy k hput]at this;omega
 refine⟨(st.app ey).put y.dst vy,.inl ⟨by grind,vy,ey,?_,b3',rfl⟩,?_⟩;rcases hqy with h|⟨h1,h4⟩
 grind;exact .inr ⟨AFg w2 (G9 hput h1),h4⟩;rw[hyo]at b3';obtain⟨j,a,b,es,key,ho,rfl⟩:=j4 b3'
 have:=hxs ((st.app { objs:=[(j,.map a b (BP (α:=a.den) es key ((BA (α:=a.den) es key).getD b.zero)))] }).put y.dst vy) (fun z hz=>Ca hap' (st.app _) vy z hz) (gy vy _ _ st)
  (.inr ⟨j,a,b,es,_,ho,by cases y.dst<;>rfl,fun k=>AJF (α:=a.den) es key k b.zero⟩)
 rw[St.Hg,St.put_comm _ vx vy hdd];omega;refine⟨st.put y.dst CK,.inr ⟨by grind,rfl⟩,?_⟩;have:=hxs (st.put y.dst CK) (fun z hz=>Ca hap' st CK z hz) (gy CK st.heap st.frz st) (.inl (by cases y.dst<;>rfl));rw[St.put_comm _ vx CK hdd];omega
theorem AHJ(hL:EV E){all:List Oper}{x y:Oper}{φx φy:List Nat}{sx sy:Nat}(hin:indep all x y φx φy sx sy=true)(hsl:sx+slotsOf x.op≤sy)
  {st s1 s2:St} (hx:C_ P E all x φx sx st s1) (hy:C_ P E all y φy sy s1 s2):∃ s1',C_ P E all y φy sy st s1'∧C_ P E all x φx sx s1' s2:=by
 obtain⟨hap,h⟩:=MM hin;rcases h with⟨w1,w2,hm⟩|⟨h1,h2⟩|⟨h1,h2⟩|⟨n1,n2,i1,i2,i3,i4⟩
 exact xa hap w1 w2 hm hx hy;exact xc hap h1 h2 hx hy;exact xb hap h1 h2 hx hy;exact xd hL hap n1 n2 i1 i2 i3 i4 hsl hx hy
end
end Go.Pev
end
section
namespace Go.Pev
open Go.RowKit
section
variable [DfI] {P:Program} {E:Env}
theorem rF{all:List Oper}{y:Oper}{φy:List Nat}{sy:Nat}:∀ {l:List (Nat×Oper×List Nat×Nat)},WB all y φy sy l=true→∀ q∈l,reach all 8 y q.1=true∨indep all q.2.1 y q.2.2.1 φy q.2.2.2 sy=true:=by
 intro l;induction l with
  |nil=>simp
  |cons p l ih=>
   intro h q hq;obtain⟨i,x,φx,sx⟩:=p;simp only[WB,AXd,AYe]at h;rcases AXf.1 hq with rfl|hq;·rcases h.1 with h1|h1|h1;exact .inl (by simp only[reach,h1,Bool.true_or]);all_goals grind
   grind
theorem Px{all:List Oper}{fp:List (List Nat)}{base:Nat}:∀ (rest pre:List Oper) (fp':List (List Nat)) (slot:Nat) (acc:List (Nat×Oper×List Nat×Nat)),all=pre++rest→fp'=fp.drop pre.length→slot=Bz all base pre.length →
  (∀ j x,j<pre.length→all[j]? = some x→(j,x,fp.getD j [],Bz all base j)∈acc)→Xt all rest fp' pre.length slot acc=true →
  ∀ i y,pre.length≤i→all[i]? = some y→(∀ e∈y.after.toList,Region.binds .any e=true→e.on<i) ∧
   ∀ j x,j<i→all[j]? = some x→reach all 8 y j=true∨indep all x y (fp.getD j []) (fp.getD i []) (Bz all base j) (Bz all base i)=true:=by
 intro rest;induction rest with
  |nil=>grind
  |cons o rest ih=>
   intro pre fp' slot acc hall hfp hsl hacc h i y hi hy;simp only[Xt,AXd]at h;obtain⟨⟨h1,h2⟩,h3⟩:=h;have hlen:(pre++[o]).length=pre.length+1:=by simp
   have hfp1:fp'.headD []=fp.getD pre.length []:=by rw[hfp,AXe,List.headD_eq_head?_getD,List.head?_drop]
   have hfp2:fp'.tail=fp.drop (pre++[o]).length:=by rw[hfp,hlen,List.tail_drop]
   have hs2:slot+slotsOf o.op=Bz all base (pre++[o]).length:=by
    rw[hsl,hlen];unfold Bz;have e1:all.take (pre.length+1)=pre++[o]:=by grind
    have e2:all.take pre.length=pre:=by grind
    rw[e1,e2,IQ];simp[Cq];omega
   have ho:all[pre.length]? = some o:=by grind
   rcases AZd pre.length i with hlt|hge;refine ih (pre++[o]) _ _ _ (by grind) hfp2 hs2 (fun j x hj hx => ?_) (by rw[hlen];exact h3) i y (by omega) hy;grind;have hip:i=pre.length:=by omega
   subst hip;rw[ho]at hy;cases hy;refine⟨fun e he hb => ?_,fun j x hj hx => ?_⟩;grind;rw[hfp1,hsl]at h1;exact rF h1 _ (hacc j x hj hx)
theorem AHM{all:List Oper}{base i j:Nat}{x:Oper}(hij:j<i)(hx:all[j]? = some x):Bz all base j+slotsOf x.op≤Bz all base i:=by
 unfold Bz;have hjl:j<all.length:=by grind
 have e:all.take (j+1)=all.take j++[x]:=by rw[AZe hjl];grind
 have e2:all.take i=all.take (j+1)++(all.drop (j+1)).take (i-(j+1)):=by rw[← List.take_add];congr 1;omega
 rw[e2,e,IQ,IQ];simp[Cq];omega
theorem My(hL:EV E){all:List Oper}{fp:Nat→List Nat}{base:Nat}{i:Nat}{y:Oper}(hy:all[i]? = some y):
  ∀ (l1 l2:List Nat) (st st':St),(∀ j∈l1,j<i∧∀ x,all[j]? = some x→indep all x y (fp j) (fp i) (Bz all base j) (Bz all base i)=true) →
   HS P E all fp (Bz all base) (l1++i::l2) st st'→HS P E all fp (Bz all base) (i::(l1++l2)) st st':=by
 intro l1;induction l1 with
  |nil=>simp
  |cons j l1 ih=>intro l2 st st' hj h;obtain⟨x,s1,hx,h1,h2⟩:=h;obtain⟨y',s2,hy',h3,h4⟩:=ih l2 s1 st' (fun k hk=>hj k (by simp[hk])) h2;rw[hy]at hy';cases hy';obtain⟨hlt,hin⟩:=hj j (by simp);obtain⟨s1',h5,h6⟩:=AHJ hL (hin x hx) (AHM hlt hx) h1 h3;exact⟨y,s1',hy,h5,x,s2,hx,h6,h4⟩
def BN(n:Nat)(listed:Array Bool):List Nat:=(List.range n).filter fun i => !listed.getD i true
theorem PR{n:Nat}{listed:Array Bool}{i:Nat}(hs:listed.size=n)(l1 l2:List Nat)(h:BN n listed=l1++i::l2):BN n (listed.setIfInBounds i true)=l1++l2:=by
 have hnd:(BN n listed).Nodup:=AZw _ List.nodup_range;have hmem:i∈BN n listed:=by grind
 have hin:i<n:=by unfold BN at hmem;grind
 have e:BN n (listed.setIfInBounds i true)=(BN n listed).filter fun j=>decide (j≠i):=by
  unfold BN;rw[List.filter_filter];apply List.filter_congr;intro j hj;have hjn:j<n:=by grind
  by_cases hji:j=i;simp_all;simp[AX6,Array.getElem?_setIfInBounds_ne (AYm hji),hji]
 rw[e,h];rw[h]at hnd;rw[AZU]at hnd;obtain⟨_,hn2,hd⟩:=hnd;rw[AZl,List.filter_cons];simp only[ne_eq,AYd,AXu,AXw,AXv];rw[AZi.2,AZi.2];all_goals grind
theorem LV{n:Nat}{listed:Array Bool}{i:Nat}{l1 l2:List Nat}(h:BN n listed=l1++i::l2):∀ j∈l1,j<i:=by
 have hp:(BN n listed).Pairwise (· < ·):=AZw _ AaJ
 grind
def S4(ops:List Oper)(listed:Nat→Bool):Prop:=∀ k z,ops[k]? = some z→listed k=true→∀ e∈z.after.toList,Region.binds .any e=true→listed e.on=true
theorem Pq{ops:List Oper}{listed:Nat→Bool}(hc:S4 ops listed):∀ (n:Nat) (y:Oper) (j:Nat),(∀ e∈y.after.toList,Region.binds .any e=true→listed e.on=true)→reach ops n y j=true→listed j=true:=by
 intro n;induction n with
  |zero=>intro y j _ h;cases h
  |succ n ih=>intro y j hy h;simp only[reach,AYe]at h;rcases h with h|h;unfold kS at h;grind;rw[AZf]at h;obtain⟨e,he,hbe⟩:=h;simp only[AXd]at hbe;obtain⟨h1,h2⟩:=hbe;split at h2;rename_i z hz;exact ih z j (hc e.on z hz (hy e he h1)) h2;grind
theorem ir(hE:∀ g,BV P g (E.spec g)){ops:Array Oper}{i:Nat}{o:Oper}{φ:List Nat}{slot:Nat}{st s1:St}{Q:Exit→Act→World→Prop}{K:Act→World→Prop}{w:World}{F:Nat→Prop}{m:Mp}{a:Act}(hgi:ops[i]? = some o)(h1:C_ P E ops.toList o φ slot st s1)(hs:SI w F m st a)
  (hk:∀ a' w' F' m',SI w' F' m' s1 a'→Ext w F m st.heap st.frz w' F' m' s1.heap s1.frz→K a' w'):wpOp P ops Q i K a w:=by
 unfold wpOp;rw[hgi];simp only;have hput:∀ (s:St) (v:AV),(s.put o.dst v).heap=s.heap∧(s.put o.dst v).frz=s.frz:=fun s v=>by cases o.dst<;>exact⟨rfl,rfl⟩
 rcases h1 with⟨hg,v,e,_,b3,rfl⟩|⟨hg,rfl⟩
 ·have hw:Region.wanted o (yielded ops a.tmps)=true:=by
   unfold D3 at hg;unfold Region.wanted;cases hgd:o.guard with
    |none=>rfl
    |some p=>
     obtain⟨j,want⟩:=p;rw[hgd]at hg;dsimp only at hg ⊢;cases hj:(ops.toList[j]?).bind (·.dst)with
      |none=>grind
      |some d=>rw[hj]at hg;dsimp only at hg;split at hg;rename_i b hd;rw[OF hs hj hd];grind;all_goals grind
  rw[AXp hw];left;obtain⟨v',e',c1,_,c3⟩:=Eg hE o.op (AV×Eff) o.type (BY st.tmps) st.heap st.frz slot (fun v e=>some (v,e)) (v,e) (b3 _ _);simp only[AXa,AXt]at c1;obtain⟨rfl,rfl⟩:=c1;refine c3 w F m a o _ Q rfl rfl hs.heap (fun x=>Et hs.tmps x) fun u w' F' m' hgo hr => ?_;refine hk _ w' F' m' ((hs.go hgo).put hr o.dst) ?_;rw[(hput ..).1,(hput ..).2];exact hgo.1
 have hw:Region.wanted o (yielded ops a.tmps)=false:=by
  unfold D3 at hg;unfold Region.wanted;cases hgd:o.guard with
   |none=>grind
   |some p=>
    obtain⟨j,want⟩:=p;rw[hgd]at hg;dsimp only at hg ⊢;cases hj:(ops.toList[j]?).bind (·.dst)with
     |none=>grind
     |some d=>rw[hj]at hg;dsimp only at hg;split at hg;rename_i b hd;rw[OF hs hj hd];grind;rename_i hd;rw[PJ hs hj hd];rfl;grind
 rw[AXo (by simp[hw])];refine hk _ w F m (hs.put Pc o.dst) ?_;rw[(hput ..).1,(hput ..).2];exact Ext.refl ..
theorem fT(hE:∀ g,BV P g (E.spec g))(hL:EV E){ops:Array Oper}{fp:Nat→List Nat}{base:Nat}{Q:Exit→Act→World→Prop}{st':St}
  (hok:∀ i y,ops.toList[i]? = some y→(∀ e∈y.after.toList,Region.binds .any e=true→e.on<i) ∧
   ∀ j x,j<i→ops.toList[j]? = some x→reach ops.toList 8 y j=true∨indep ops.toList x y (fp j) (fp i) (Bz ops.toList base j) (Bz ops.toList base i)=true) :
  ∀ (fuel:Nat) (listed:Array Bool) (st:St) (w:World) (F:Nat→Prop) (m:Mp) (a:Act),listed.size=ops.size→S4 ops.toList (fun i=>listed.getD i false)→(BN ops.size listed).length≤fuel→SI w F m st a →
   HS P E ops.toList fp (Bz ops.toList base) (BN ops.size listed) st st' →
   (∀ a' w' F' m',SI w' F' m' st' a'→Ext w F m st.heap st.frz w' F' m' st'.heap st'.frz→Q .normal a' w')→wpAny P .any ops Q fuel listed a w:=by
 intro fuel
 have hdone:∀ (listed:Array Bool) (st:St) (w:World) (F:Nat→Prop) (m:Mp) (a:Act),BN ops.size listed=[]→SI w F m st a→HS P E ops.toList fp (Bz ops.toList base) (BN ops.size listed) st st' →
   (∀ a' w' F' m',SI w' F' m' st' a'→Ext w F m st.heap st.frz w' F' m' st'.heap st'.frz→Q .normal a' w')→Q .normal a w:=by
  intro listed st w F m a h0 hs hc hq
  rw[h0]at hc
  have hc:st=st':=hc
  subst hc
  exact hq a w F m hs (Ext.refl ..)
 have hready:∀ (listed:Array Bool) (i:Nat),i∈Region.ready .any ops listed↔i∈BN ops.size listed∧((ops[i]?).map (·.after.all fun e => !Region.binds .any e||listed.getD e.on false)).getD false=true:=by intro listed i;unfold Region.ready BN;grind
 induction fuel with
  |zero=>intro listed st w F m a hsz hcl hl hs hc hq;have h0:BN ops.size listed=[]:=AX7 (by omega);refine⟨List.eq_nil_iff_forall_not_mem.2 fun i hi => ?_,hdone listed st w F m a h0 hs hc hq⟩;grind
  |succ fuel ih=>
   intro listed st w F m a hsz hcl hl hs hc hq;refine⟨fun hnil => ?_,fun i hi => ?_⟩;refine hdone listed st w F m a ?_ hs hc hq;cases hu:BN ops.size listed with
    |nil=>rfl
    |cons i l=>
     exfalso;have hmem:i∈BN ops.size listed:=by grind
     have hin:i<ops.size:=by unfold BN at hmem;grind
     have:i∈Region.ready .any ops listed:=by
      refine(hready listed i).2 ⟨hmem,?_⟩;rw[AYt hin];simp only[AY5,AX5];rw[← AaP,AXy];intro e he;cases hb:Region.binds .any e with
       |false=>rfl
       |true=>
        have hlt:=(hok i ops[i] (by simp)).1 e he hb;simp only[AXh,AZy];cases hg:listed.getD e.on false with
         |true=>rfl
         |false=>
          exfalso;have hon:e.on<ops.size:=by omega
          have:e.on∈BN ops.size listed:=by unfold BN;grind
          rw[hu]at this;have hp:(BN ops.size listed).Pairwise (· < ·):=AZw _ AaJ
          rw[hu,AYP]at hp;grind
     grind
   obtain⟨hmem,hrd⟩:=(hready listed i).1 hi;have hin:i<ops.size:=by grind
   obtain⟨l1,l2,hsplit⟩:=AZm hmem;have hgi:ops[i]? = some ops[i]:=AYt hin;have hgl:ops.toList[i]? = some ops[i]:=by simp
   rw[hgi]at hrd;simp only[AY5,AX5]at hrd;rw[← AaP,AXy]at hrd;rw[hsplit]at hc;obtain⟨y,s1,hy,h1,h2⟩:=My hL hgl l1 l2 st st' (fun j hj=>by
    have hji:=LV hsplit j hj;refine⟨hji,fun x hx => ?_⟩;rcases(hok i _ hgl).2 j x hji hx with h|h;exfalso;have hall:∀ e∈(ops[i]).after.toList,Region.binds .any e=true→(fun i=>listed.getD i false) e.on=true:=by grind
    have this:=Pq hcl 8 _ j hall h;have hju:j∈BN ops.size listed:=by grind
    unfold BN at hju;grind;omega) hc
   rw[hgl]at hy;cases hy;have hnext:=PR hsz l1 l2 hsplit;have hlen:(BN ops.size (listed.setIfInBounds i true)).length≤fuel:=by grind
   have hcl2:S4 ops.toList (fun k=>(listed.setIfInBounds i true).getD k false):=by
    have hset:∀ k,(listed.setIfInBounds i true).getD k false=true↔(k=i∨listed.getD k false=true):=by
     intro k;have hil:i<listed.size:=by omega
     rw[AX6,AX6,Array.getElem?_setIfInBounds];grind
    intro k z hz hk e he hb;simp only[hset]at hk ⊢;right;rcases hk with rfl|hk;grind;exact hcl k z hz hk e he hb
   exact ir hE hgi h1 hs fun a' w' F' m' hs2 hx=>ih _ _ w' F' m' a' (by grind) hcl2 hlen hs2 (by grind) fun a' w2 F2 m2 q1 q2=>hq a' w2 F2 m2 q1 (hx.trans q2)
theorem SI.drew{w:World}{F:Nat→Prop}{m:Mp}{st:St}{a:Act}(h:SI w F m st a):SI w.drew F m st a∧Ext w F m st.heap st.frz w.drew F m st.heap st.frz:=by have hg:=BQ.drew h.heap;exact⟨⟨fun t=>hg.1.rep h.heap (h.tmps t),h.size,hg.2,h.defers⟩,hg.1⟩
theorem aV(hE:∀ g,BV P g (E.spec g))(hL:EV E){R:Type}{r:R}{id:Nat}{fp:List (List Nat)}{ops:Array Oper}{Q:Exit→Act→World→Prop}{k:St→Option R}{st:St}{w:World}{F:Nat→Prop}{m:Mp}{a:Act}
  (h:E6 P E R fp ops.toList st k=some r) (hs:SI w F m st a) (hq:∀ a' w',AUX r k w F m st.heap st.frz a' w'→Q .normal a' w'):(Code.region id ops true).wp P Q a w:=by
 unfold E6 at h;rw[Nx]at h;split at h;rename_i hok;simp only[AXd]at hok;obtain⟨hm,hok⟩:=hok;obtain⟨hs1,he1⟩:=hs.drew;obtain⟨hs2,he2⟩:=hs1.pad (Cq ops.toList);have hnn:ops.toList=[]++ops.toList:=by simp
 obtain⟨st',hc,hk⟩:=aX hE (all:=ops.toList) (fp:=fp) (base:=st.heap.length) ops.toList [] fp st.heap.length _ hnn rfl (by simp[Bz,Cq]) h;refine wp_region_any hm ?_;have hu:BN ops.size (Array.replicate ops.size false)=List.range' 0 ops.toList.length:=by
  unfold BN;rw[AX0,← AZW];rw[AZi];intro i hi;have:i<ops.size:=by grind
  simp[AX6,this]
 refine fT (ops:=ops) hE hL (fp:=fun i=>fp.getD i []) (base:=st.heap.length) (st':=st') (fun i y hy=>Px (all:=ops.toList) ops.toList [] fp _ [] hnn rfl (by simp[Bz,Cq]) (fun j x hj=>by grind) hok i y (AZ1 _) hy)
  ops.size _ _ w.drew F m a (by simp) (fun k z _ hk=>by
   exfalso
   have hk:(Array.replicate ops.size false).getD k false=true:=hk
   rw[AX6,Array.getElem?_replicate]at hk
   grind) (by grind) hs2 (by grind) fun a' w' F' m' q1 q2=>hq a' w' ⟨st',F',m',hk,q1,he1.trans (he2.trans q2)⟩
 grind
end
end Go.Pev
end
section
namespace Go.Pev
open Go.RowKit
def B_(w:World)(F:Nat→Prop)(m:Mp)(H:List Ob)(fz:List Bool)(m':Mp)(H':List Ob)(j:Nat):Bnd→Prop
 |.none=>m' j=none∧((∃ T e,H'[j]? = some (.arr T e [])∧0<e.size)∨∃ T t,H'[j]? = some (.prs T t []))
 |.whole id=>m' j=m id∧((∃ T t xs,H[id]? = some (.arr T t xs)∧H'[j]? = some (.arr T t xs)∧fz.getD id false=false) ∨
   (∃ k v es,H[id]? = some (.map k v es)∧H'[j]? = some (.map k v es)) ∨
   (∃ cs cs' b c vs T,H[id]? = some (.box cs)∧H'[j]? = some (.box cs')∧cs'.length=cs.length∧m id=some (b,c)∧w.heap[b]? = some (.cells vs T (0,0))∧BD w F m' H' cs' vs.toList∧∀ u∈vs.toList,u.oneCell'=true) ∨
   (∃ T tgt j0 is,H[id]? = some (.prs T tgt is)∧H'[j]? = some (.prs T j0 is)∧ObI w F m' H' (.prs T j0 is) (m id)) ∨
   (∃ T e t xs ver,H[id]? = some (.rows T e t xs ver none)∧H'[j]? = some (.rows T e t xs 0 none)∧(∀ k,m' (.r j k)=m (.r id k))∧fz.getD id false=false))
 |.cut id=>∃ T t xs n,H[id]? = some (.arr T t xs)∧fz.getD id false=false∧H'[j]? = some (.arr T t (List.take (α:=t.den) n xs))∧(m' j=m id∨(m' j=none∧List.take (α:=t.den) n xs=[]))
structure Inv(w:World)(F:Nat→Prop)(m:Mp)(H:List Ob)(fz:List Bool)(bs:List Bnd)(m':Mp)(E:St)(val:Nat→Value):Prop where
 tmps:∀ t,Rep w F m' E.heap (E.tmps.f t) (val t)
 lenH:E.heap.length=bs.length
 lenF:E.frz.length=E.heap.length
 frz:∀ i,E.frz.getD i false=false
 ob:∀ j b,bs[j]? = some b→B_ w F m H fz m' E.heap j b
 inj:∀ (i j:Nat) (b c:Bnd) (id:Nat),bs[i]? = some b→bs[j]? = some c→b.id? = some id→c.id? = some id→i=j
def ABq(w:World)(m:Mp)(H:List Ob)(bs:List Bnd)(val:Nat→Value):Loc→Value→Prop
 |.tmp t,u=>u=val t
 |.cell j c,u=>∃ id b cc vs T cs,bs[j]? = some (.whole id)∧H[id]? = some (.box cs)∧m id=some (b,cc)∧w.heap[b]? = some (.cells vs T (0,0))∧vs.toList[c]? = some u
 |_,_=>True
theorem ARE{w:World}{F:Nat→Prop}{m:Mp}{H:List Ob}{cs:List AV}{us:List Value}{c:Nat}{v:AV}{u:Value}(h:BD w F m H cs us)(hu:us[c]? = some u)(hv:Rep w F m H v u):BD w F m H (cs.set c v) us:=by refine Dy (by simp[Ba h]) fun i x y hx hy => ?_;by_cases hic:i=c;grind;rw[AYo (AYm hic)]at hx;obtain⟨y',hy',hr⟩:=C' h hx;grind
theorem ALy{w:World}{F:Nat→Prop}{m:Mp}{H:List Ob}{tm:Tm}{val:Nat→Value}(h:∀ t,Rep w F m H (tm.f t) (val t)){t:Nat}{v:AV}(hv:Rep w F m H v (val t)):∀ i,Rep w F m H ((tm.set t v).f i) (val i):=by intro i;rw[Tm.TG];grind
theorem pz{w:World}{F F2:Nat→Prop}{m m2:Mp}{H H2:List Ob}{T:TypeId}{j:Nat}{is:List Int}{l:Option (Nat×Nat)}(h3:∀ {cs us},BD w F m H cs us→BD w F2 m2 H2 cs us)(h:ObI w F m H (.prs T j is) l):ObI w F2 m2 H2 (.prs T j is) l:=by
 cases l with
  |none=>exact h
  |some p=>obtain⟨b,cap⟩:=p;obtain⟨vs,us,e1,e2,e3,e4,e5,e6⟩:=h;exact⟨vs,us,e1,e2,e3,e4,h3 e5,e6⟩
section
variable {w:World} {F:Nat→Prop} {m:Mp} {H:List Ob} {fz:List Bool} {bs:List Bnd} {m':Mp} {E:St} {val:Nat→Value}
theorem B_.mono{b:Bnd}{m'':Mp}{H' H'':List Ob}{j:Nat}(h:B_ w F m H fz m' H' j b)(h1:H''[j]? = H'[j]?)(h2:∀ x:Ix,x.id=j→m'' x=m' x)(h3:∀ {cs us},BD w F m' H' cs us→BD w F m'' H'' cs us):B_ w F m H fz m'' H'' j b:=by
 cases b with
  |none=>simp only[B_]at *;rw[h1,h2 j rfl];exact h
  |whole id=>
   simp only[B_]at *;rw[h1,h2 j rfl];obtain⟨e,h⟩:=h;refine⟨e,?_⟩;rcases h with h|h|⟨cs,cs',b,c,vs,T,a1,a2,a3,a4,a5,a6,a7⟩|⟨T,tgt,j0,is,a1,a2,a3⟩|⟨T,e',t,xs,ver,a1,a2,a3⟩
   grind;grind;grind;exact .inr (.inr (.inr (.inl ⟨T,tgt,j0,is,a1,a2,pz h3 a3⟩)));exact .inr (.inr (.inr (.inr ⟨T,e',t,xs,ver,a1,a2,fun k=>(h2 (.r j k) rfl).trans (a3.1 k),a3.2⟩)))
  |cut id=>simp only[B_]at *;rw[h1,h2 j rfl];exact h
theorem Inv.place(h:Inv w F m H fz bs m' E val){l:Loc}{u:Value}{v:AV}(hl:ABq w m H bs val l u)(hv:Rep w F m' E.heap v u):Inv w F m H fz bs m' (Pev.place E v l) val:=by
 cases l with
  |tmp t=>have hl:u=val t:=hl;subst hl;exact⟨ALy h.tmps hv,h.lenH,h.lenF,h.frz,h.ob,h.inj⟩
  |cap t i=>exact h
  |obj j=>exact h
  |cell j c=>
   obtain⟨id,b,cc,vs,T,cs,hj,hb,hm,hw,hu⟩:=hl;have hbd:=h.ob j _ hj;simp only[B_]at hbd;obtain⟨hm',hbd⟩:=hbd;rw[hb]at hbd;rcases hbd with⟨_,_,_,hx,_⟩|⟨_,_,_,hx,_⟩|⟨cs0,cs',b0,c0,vs0,T0,hx,h1,h2,h3,h4,h5,h6⟩|⟨_,_,_,_,hx,_⟩|⟨_,_,_,_,_,hx,_⟩
   cases hx;cases hx;rotate_left;cases hx;cases hx
   ·cases hx;rw[hm]at h3;cases h3;rw[hw]at h4;cases h4;have hlt:=BU h1;have hcomp:C5 E.heap (E.heap.set j (.box (cs'.set c v))) m' m':=by
     intro i o hi hf;by_cases hij:i=j;subst hij;rw[h1]at hi;cases hi;exact .inr ⟨by simp,_,Bj hlt,trivial,rfl,fun _ _ _=>rfl⟩
     ·rcases C5.refl E.heap m' i o hi hf with h|⟨hd,o',h4,h5,_⟩
      all_goals grind
    have mono:∀ {a u},Rep w F m' E.heap a u→Rep w F m' (E.heap.set j (.box (cs'.set c v))) a u:=fun h=>Rep.mono (fun _ _=>rfl) (fun _ h=>h) hcomp _ h;have monoL:∀ {a u},BD w F m' E.heap a u→BD w F m' (E.heap.set j (.box (cs'.set c v))) a u:=fun h=>BD.mono (fun _ _=>rfl) (fun _ h=>h) hcomp _ h;unfold Pev.place;simp only[h1];refine⟨fun t=>mono (h.tmps t),by simp[h.lenH],by simp[h.lenF],h.frz,fun i x hi => ?_,h.inj⟩;by_cases hij:i=j;subst hij;rw[hj]at hi;cases hi;simp only[B_];exact⟨hm',.inr (.inr (.inl ⟨cs,_,b,cc,vs,T,hb,Bj hlt,by simp[h2],hm,hw,monoL (ARE h5 hu hv),h6⟩))⟩;exact(h.ob i x hi).mono (Bi hij) (fun _ _=>rfl) monoL
theorem kV{α:Type}{l:List α}{x y:α}{j:Nat}(h:(l++[x])[j]? = some y):(j<l.length∧l[j]? = some y)∨(j=l.length∧y=x):=by grind
theorem Inv.AWd(h:Inv w F m H fz bs m' E val){b:Bnd}{o:Ob}{mn:Mp}(hmn:∀ x:Ix,x.id≠E.heap.length→mn x=m' x)(hid:∀ (i:Nat) (c:Bnd) (id:Nat),bs[i]? = some c→c.id? = some id→b.id?≠some id)
  (hbd:B_ w F m H fz mn (E.heap++[o]) E.heap.length b):Inv w F m H fz (bs++[b]) mn (ET E o) val:=by
 have hcomp:C5 E.heap (E.heap++[o]) m' mn:=by
  intro i x hi hf;have hlt:=BU hi;rcases C5.refl E.heap m' i x hi hf with h|⟨hd,o',h4,h5,_⟩
  grind;exact .inr ⟨hd,o',by grind,h5,hmn _ (by show i≠_;omega),fun _ _ _=>hmn _ (by show i≠_;omega)⟩
 have monoL:∀ {a u},BD w F m' E.heap a u→BD w F mn (E.heap++[o]) a u:=fun h=>BD.mono (fun _ _=>rfl) (fun _ h=>h) hcomp _ h;refine⟨fun t=>Rep.mono (fun _ _=>rfl) (fun _ h=>h) hcomp _ (h.tmps t),by simp[ET,h.lenH],by simp[ET,h.lenF],fun i => ?_,fun j x hj => ?_,fun i j x y id hi hj hx hy => ?_⟩;have:=h.frz i;simp only[ET];grind;rcases kV hj with⟨hlt,hj1⟩|⟨hj1,rfl⟩
 rw[← h.lenH]at hlt;exact(h.ob j x hj1).mono (AYu hlt) (fun y hy=>hmn y (by omega)) monoL;rw[← h.lenH]at hj1;rw[hj1];exact hbd;rcases kV hi with⟨hlt,hi1⟩|⟨hi1,rfl⟩
 rcases kV hj with⟨hlt',hj1⟩|⟨hj1,rfl⟩
 exact h.inj i j x y id hi1 hj1 hx hy;grind;grind
theorem Inv.add(h:Inv w F m H fz bs m' E val){b:Bnd}{o:Ob}{l:Option (Nat×Nat)}(hid:∀ (i:Nat) (c:Bnd) (id:Nat),bs[i]? = some c→c.id? = some id→b.id?≠some id)
  (hbd:B_ w F m H fz (upd m' E.heap.length l) (E.heap++[o]) E.heap.length b):Inv w F m H fz (bs++[b]) (upd m' E.heap.length l) (ET E o) val:=
 h.AWd (fun x hx=>Wa hx x rfl) hid hbd
theorem Fa{id:Nat}(h:fresh? bs id=true):∀ (i:Nat) (c:Bnd),bs[i]? = some c→c.id?≠some id:=by
 intro i c hi he;unfold fresh? at h;rw[AXy]at h;have:=h c (AXk hi);cases c with
  |none=>simp[Bnd.id?]at he
  |whole k=>simp only[Bnd.id?,AXa]at he;grind
  |cut k=>simp only[Bnd.id?,AXa]at he;grind
theorem Inv.freeze(h:Inv w F m H fz bs m' E val){f:List Nat}(hf:f.all (fresh? bs)=true):Inv w (Ds F m H f) m H (BI f fz) bs m' E val:=by
 have monoL:∀ {a u},BD w F m' E.heap a u→BD w (Ds F m H f) m' E.heap a u:=fun h=>BD.mono (fun _ _=>rfl) (fun _ h=>.inl h) (C5.refl _ _) _ h;have hfz:∀ (id i:Nat) (c:Bnd),bs[i]? = some c→c.id? = some id→fz.getD id false=false→(BI f fz).getD id false=false:=by
  intro id i c hi hc h0;rw[Bh,h0];have:id∉f:=fun hid=>by rw[AXy]at hf;exact Fa (hf id hid) i c hi hc
  grind
 refine⟨fun t=>Rep.mono (fun _ _=>rfl) (fun _ h=>.inl h) (C5.refl _ _) _ (h.tmps t),h.lenH,h.lenF,h.frz,fun j b hj => ?_,h.inj⟩;have:=h.ob j b hj;cases b with
  |none=>exact this
  |whole id=>
   simp only[B_]at *;obtain⟨e,this⟩:=this;refine⟨e,?_⟩;rcases this with⟨T,t,xs,a1,a2,a3⟩|h1|⟨cs,cs',b,c,vs,T,a1,a2,a3,a4,a5,a6,a7⟩|⟨T,tgt,j0,is,a1,a2,a3⟩|⟨T,e',t,xs,ver,a1,a2,a3,a4⟩
   exact .inl ⟨T,t,xs,a1,a2,hfz id j _ hj rfl a3⟩;grind;grind;exact .inr (.inr (.inr (.inl ⟨T,tgt,j0,is,a1,a2,pz monoL a3⟩)));exact .inr (.inr (.inr (.inr ⟨T,e',t,xs,ver,a1,a2,a3,hfz id j _ hj rfl a4⟩)))
  |cut id=>simp only[B_]at *;obtain⟨T,t,xs,n,a1,a2,a3⟩:=this;exact⟨T,t,xs,n,a1,hfz id j _ hj rfl a2,a3⟩
theorem yd{j id off:Nat}{u:Value}(hb:B_ w F m H fz m' E.heap j (.whole id))(hu:Rep w F m H (.ptr id off) u):Rep w F m' E.heap (.ptr j off) u:=by simp only[B_]at hb;obtain⟨e,hb⟩:=hb;unfold Rep at *;unfold GZ at *;grind
theorem AT5{j id i sub:Nat}{u:Value}(hb:B_ w F m H fz m' E.heap j (.whole id))(hu:Rep w F m H (.eptr id i sub) u):Rep w F m' E.heap (.eptr j i sub) u:=by
 simp only[B_]at hb;obtain⟨e,hb⟩:=hb;unfold Rep at *;unfold DY at *;rcases hb with⟨T,t,xs,a1,a2,_⟩|⟨k,v,es,a1,_⟩|⟨cs,cs',b,c,vs,T,a1,a2,_,a4,_⟩|⟨_,_,_,_,a1,a2,_⟩|⟨K,_,_,_,_,a1,a2,_⟩
 grind;all_goals grind
theorem ASY{j id:Nat}{is:List Int}{us:List Value}(hb:B_ w F m H fz m' E.heap j (.whole id))(hu:BD w F m H (GD id is) us):BD w F m' E.heap (GD j is) us:=by refine Dy (by have:=Ba hu;simpa [GD]using this) fun i c v hc hv => ?_;rw[GD,AZS,AXm]at hc;obtain⟨x,hx,rfl⟩:=hc;obtain⟨v',hv',hr⟩:=C' hu (i:=i) (c:=.eptr id x.toNat 0) (by rw[GD,AZS,hx];rfl);rw[hv]at hv';cases hv';exact AT5 hb hr
theorem AWx{j id:Nat}{u:Value}(hb:B_ w F m H fz m' E.heap j (.whole id))(hu:Rep w F m H (.mp id) u):Rep w F m' E.heap (.mp j) u:=by simp only[B_]at hb;obtain⟨e,hb⟩:=hb;unfold Rep at *;unfold Ld at *;grind
theorem AOS{j id:Nat}{u:Value}(hb:B_ w F m H fz m' E.heap j (.whole id))(hu:Rep w F m H (.own id) u):Rep w F m' E.heap (.own j) u:=by simp only[B_]at hb;obtain⟨e,hb⟩:=hb;unfold Rep at *;unfold Bq at *;grind
theorem AUS{j id n:Nat}{u:Value}(hb:B_ w F m H fz m' E.heap j (.whole id))(hu:Rep w F m H (.aptr id n) u):Rep w F m' E.heap (.aptr j n) u:=by simp only[B_]at hb;obtain⟨e,hb⟩:=hb;unfold Rep at *;unfold Fp at *;grind
theorem w6{j id off n:Nat}{u:Value}(hb:B_ w F m H fz m' E.heap j (.whole id))(hu:Rep w F m H (.win id off n) u):Rep w F m' E.heap (.win j off n) u:=by simp only[B_]at hb;obtain⟨e,hb⟩:=hb;unfold Rep at *;unfold HQ at *;grind
theorem AS2{id:Nat}{u:Value}{T:TypeId}{t:Ty}{ys:List t.den}(hi:HI w F m H fz)(ho:H[id]? = some (.arr T t ys))(hu:Rep w F m H (.own id) u):Rep w F m H (.win id 0 ys.length) u:=by
 unfold Rep at *;unfold Bq at hu;unfold HQ;rw[ho]at hu ⊢;simp only at hu ⊢;refine⟨by omega,?_⟩;cases hm:m id with
  |none=>rw[hm]at hu;obtain⟨a,rfl⟩:=hu;obtain⟨_,hob⟩:=hi.obj id _ ho;simp_all
  |some p=>grind
theorem AAE{α:Type}{l:List α}{i:Nat}{o:α}(h:l[i]? = some o):i<l.length:=by grind
theorem CY(hi:HI w F m H fz){tm:Nat→Option AV}(ht:∀ t v,tm t=some v→Rep w F m H v (val t)){l:Loc}{v:AV}(h:look tm H bs l=some v):∃ u,Rep w F m H v u∧ABq w m H bs val l u:=by
 cases l with
  |tmp t=>exact⟨val t,ht t v h,rfl⟩
  |cell j c=>simp only[look]at h;split at h;rename_i id hj;split at h;rename_i cs ho;obtain⟨b,cc,vs,T,h1,h2,h3,h4⟩:=hi.obj id _ ho;obtain⟨u,hu,hr⟩:=C' h3 h;exact⟨u,hr,id,b,cc,vs,T,cs,hj,ho,h1,h2,hu⟩;grind;grind
  |cap t i=>simp only[look]at h;split at h;rename_i f cs hc;have:=ht t _ hc;unfold Rep at this;obtain⟨us,_,hr⟩:=this;obtain⟨u,_,hu⟩:=C' hr h;exact⟨u,hu,trivial⟩;rename_i f cs hc;have:=ht t _ hc;unfold Rep at this;obtain⟨us,_,hr⟩:=this;obtain⟨u,_,hu⟩:=C' hr h;exact⟨u,hu,trivial⟩;grind
  |obj j=>
   simp only[look,AUh]at h;split at h;rename_i T t xs ho;cases h;have:=hi.obj j _ ho;obtain⟨_,this⟩:=this;cases hm:m j with
    |none=>refine⟨.slice none 0 0,?_,trivial⟩;unfold Rep Bq;grind
    |some p=>obtain⟨b,cap⟩:=p;refine⟨.slice (some ⟨b,0,none⟩) (List.length (α:=t.den) xs) cap,?_,trivial⟩;unfold Rep Bq;grind
   rename_i cs ho;cases h;obtain⟨b,c,vs,T,h1,_⟩:=hi.obj j _ ho;refine⟨.pointer (some ⟨b,0,none⟩),?_,trivial⟩;unfold Rep GZ;grind;rename_i k v es ho;cases h;obtain⟨b,c,vs,T,h1,_⟩:=hi.obj j _ ho;refine⟨.map (some b),?_,trivial⟩;unfold Rep Ld;grind;rename_i T t is ho;cases h;cases hm:m j with
    |none=>refine⟨.slice none 0 0,?_,trivial⟩;unfold Rep Bq;grind
    |some p=>obtain⟨b,cap⟩:=p;refine⟨.slice (some ⟨b,0,none⟩) is.length cap,?_,trivial⟩;unfold Rep Bq;grind
   rename_i T e t xs ver out ho;cases h;cases hm:m j with
    |none=>refine⟨.slice none 0 0,?_,trivial⟩;unfold Rep Bq;grind
    |some p=>obtain⟨b,cap⟩:=p;refine⟨.slice (some ⟨b,0,none⟩) (List.length (α:=List t.den) xs) cap,?_,trivial⟩;unfold Rep Bq;grind
   rename_i jk ks e t xs ver out ho;cases h;obtain⟨_,h1⟩:=hi.obj j _ ho;cases hm:m j with
    |none=>rw[hm]at h1;cases h1.1
    |some p=>obtain⟨b,cap⟩:=p;refine⟨.map (some b),?_,trivial⟩;unfold Rep Ld;grind
   grind
theorem ABq.app{l:Loc}{u:Value}(h:ABq w m H bs val l u)(b:Bnd):ABq w m H (bs++[b]) val l u:=by
 cases l with
  |tmp t=>exact h
  |cap t i=>trivial
  |obj j=>trivial
  |cell j c=>obtain⟨id,b1,cc,vs,T,cs,h1,h2⟩:=h;exact⟨id,b1,cc,vs,T,cs,by grind,h2⟩
theorem AUF(hb:∀ j b,bs[j]? = some b→B_ w F m H fz m' E.heap j b):∀ (vs:List AV) (ps:List (Nat×Nat)) (us:List Value),AKf bs vs ps=true→BD w F m H vs us→BD w F m' E.heap (ps.map fun p=>.ptr p.1 p.2) us:=by
 intro vs;induction vs with
  |nil=>
   intro ps us h hr;cases ps with
    |nil=>unfold BD at *;exact hr
    |cons p ps=>simp[AKf]at h
  |cons v vs ih=>
   intro ps us h hr;cases ps with
    |nil=>cases v<;>simp[AKf]at h
    |cons p ps=>
     obtain⟨j,o'⟩:=p;cases v<;>simp only[AKf]at h<;>try grind
     rename_i id o;simp only[AXd]at h;obtain⟨h1,h2⟩:=h;unfold BD at hr;obtain⟨u,us',rfl,hu,hr⟩:=hr;simp only[AX4];unfold BD;refine⟨u,us',rfl,?_,ih ps us' h2 hr⟩;split at h1;rename_i id' hj;simp only[AXd,AXc]at h1;obtain⟨rfl,rfl⟩:=h1;exact yd (hb j _ hj) hu;grind
end
end Go.Pev
end
section
namespace Go.Pev
open Go.RowKit
theorem xp(f g:List Nat):∀ fz,BI (f++g) fz=BI g (BI f fz):=by
 induction f with
  |nil=>intro fz;rfl
  |cons a f ih=>intro fz;simp only[AX3,BI];grind
section
variable {w:World} {H:List Ob} {m:Mp} {val:Nat→Value} {tm:Nat→Option AV}
theorem C7{fz:List Bool}{id:Nat}(h:BJ fz id=true):fz.getD id false=false:=by unfold BJ at h;grind
theorem AA5:∀ (its:A1) (fz:List Bool) (bs:List Bnd) (F:Nat→Prop) (m':Mp) (E:St) (d:Bg (leaves its)) (bs':List Bnd) (fr:List Nat),
  HI w F m H fz→(∀ t v,tm t=some v→Rep w F m H v (val t))→Inv w F m H fz bs m' E val→dec tm H its fz bs=some (d,bs',fr) →
  ∃ F2 m2,BQ w F m H fz w F2 m H (BI fr fz)∧Inv w F2 m H (BI fr fz) bs' m2 (enc its d E) val∧∃ r,bs'=bs++r:=by
 intro its;induction its with
  |nil=>intro fz bs F m' E d bs' fr hi ht hv h;simp only[dec,AXa]at h;obtain⟨rfl,rfl,rfl⟩:=h;exact⟨F,m',BQ.refl hi,hv,[],by simp⟩
  |cons p r ih=>
   intro fz bs F m' E d bs' fr hi ht hv h;obtain⟨l,c⟩:=p
   have obj:∀ (b:Bnd) (o:Ob) (lc:Option (Nat×Nat)) (ref:AV) (u:Value) (xs:Bg (leaves r)) (g:List Nat),ABq w m H bs val l u→(∀ (i:Nat) (c:Bnd) (id:Nat),bs[i]? = some c→c.id? = some id→b.id?≠some id) →
     B_ w F m H fz (upd m' E.heap.length lc) (E.heap++[o]) E.heap.length b→Rep w F (upd m' E.heap.length lc) (E.heap++[o]) ref u→dec tm H r fz (bs++[b])=some (xs,bs',g) →
     ∃ F2 m2,BQ w F m H fz w F2 m H (BI g fz)∧Inv w F2 m H (BI g fz) bs' m2 (enc r xs (place (ET E o) ref l)) val∧∃ r,bs'=bs++r:=by
    intro b o lc ref u xs g hat hid hbd hrep hd
    have h1:=hv.add hid hbd
    have h2:=h1.place (hat.app b) hrep
    grind
   have ref:∀ (v:AV) (u:Value) (xs:Bg (leaves r)) (g:List Nat),ABq w m H bs val l u→Rep w F m' E.heap v u→dec tm H r fz bs=some (xs,bs',g) →
     ∃ F2 m2,BQ w F m H fz w F2 m H (BI g fz)∧Inv w F2 m H (BI g fz) bs' m2 (enc r xs (place E v l)) val∧∃ r,bs'=bs++r:=by
    intro v u xs g hat hrep hd
    exact ih fz bs F _ _ xs bs' g hi ht (hv.place hat hrep) hd
   cases c with
    |dat t=>simp only[dec]at h;split at h;rename_i v hl;split at h;rename_i x f hx;split at h;rename_i hf;split at h;rename_i xs bs1 g hd;simp only[AXa]at h;obtain⟨rfl,rfl,rfl⟩:=h;obtain⟨u,hu,hat⟩:=CY hi ht hl;have hdat:=AQz hi hx hu;have hg:=BQ.freeze hi f;have hv1:=hv.freeze hf;have hv2:=hv1.place (v:=.data t x) hat (by unfold Rep;omega);obtain⟨F2,m2,a1,a2,rr,a3⟩:=ih (BI f fz) bs (Ds F m H f) _ _ xs _ _ hg.2 (fun t v h=>hg.1.rep hi (ht t v h)) hv2 hd;rw[xp];exact⟨F2,m2,hg.trans a1,a2,rr,a3⟩;grind;grind;grind;grind
    |own T e=>
     simp only[dec]at h;split at h;rename_i e' hl;split at h;rename_i hc;simp only[AXc]at hc;have hsz:=hc;split at h;rename_i xs bs1 g hd;simp only[AXa]at h;obtain⟨rfl,rfl,rfl⟩:=h;obtain⟨u,hu,hat⟩:=CY hi ht hl;unfold Rep at hu;refine obj .none (.arr T e []) none (.own E.heap.length) u xs _ hat (fun _ _ _ _ _=>by simp[Bnd.id?]) ?_ ?_ hd;simp only[B_];exact⟨BX ..,.inl ⟨T,e,by simp,hsz⟩⟩;unfold Rep Bq;simp only[AYF (AXl _),AY0,AYN,BX];grind;grind;grind;rename_i id hl;split at h;rename_i T' e' ys ho hfr;simp only[AXd]at hfr;obtain⟨hun,hfr⟩:=hfr;split at h;rename_i ys' hT hc;simp only[AXc]at hT;subst hT;obtain⟨he,hy⟩:=C9 hc;subst he;simp only at hy;subst hy;split at h;rename_i xs bs1 g hd;simp only[AXa]at h;obtain⟨rfl,rfl,rfl⟩:=h;obtain⟨u,hu,hat⟩:=CY hi ht hl;refine obj (.whole id) (.arr T e' ys) (m id) (.own E.heap.length) u xs _ hat (fun i c id' hic hcid => ?_) ?_ ?_ hd;rintro h;simp only[Bnd.id?,AXa]at h;subst h;exact Fa hfr i c hic hcid;simp only[B_];exact⟨BX ..,.inl ⟨T,e',ys,ho,by simp,C7 hun⟩⟩;unfold Rep at hu ⊢;rw[ho]at hu;rw[AYF (AXl _),AY0,AYN,BX];exact hu;grind;grind;grind;rename_i id n hl;split at h;rename_i T' e' ys ho hfr;simp only[AXd]at hfr;obtain⟨hun,hfr⟩:=hfr;split at h;rename_i ys' hT hc;simp only[AXc]at hT;subst hT;obtain⟨he,hy⟩:=C9 hc;subst he;simp only at hy;subst hy;split at h;rename_i xs bs1 g hd;simp only[AXa]at h;obtain⟨rfl,rfl,rfl⟩:=h;obtain⟨u,hu,hat⟩:=CY hi ht hl;unfold Rep HQ at hu;rw[ho]at hu;obtain⟨hle,hu⟩:=hu;have hid:∀ (i:Nat) (c:Bnd) (id':Nat),bs[i]? = some c→c.id? = some id'→(Bnd.cut id).id?≠some id':=by intro i c id' hic hcid h;simp only[Bnd.id?,AXa]at h;subst h;exact Fa hfr i c hic hcid
     have hget:(E.heap++[Ob.arr T e' (C1 n ys)])[E.heap.length]? = some (Ob.arr T e' (C1 n ys)):=by simp
     obtain⟨hsz,hob⟩:=hi.obj id _ ho;have hnil:n=0→List.take (α:=e'.den) n ys=[]:=by grind
     have hlen:List.length (α:=e'.den) (C1 n ys)=n:=by unfold C1;grind
     cases hm:m id with
      |none=>
       rw[hm]at hob hu;simp only at hob hu;subst hob;have h0:n=0:=by grind
       subst h0;obtain⟨a,rfl⟩:=hu;refine obj (.cut id) (.arr T e' (C1 0 [])) none (.own E.heap.length) _ xs _ hat hid ?_ ?_ hd;simp only[B_];exact⟨T,e',[],0,ho,C7 hun,hget,.inl (by rw[BX,hm])⟩;unfold Rep;rw[hget,BX];exact⟨a,rfl⟩
      |some p=>
       obtain⟨b,cap⟩:=p;rw[hm]at hob hu;obtain⟨a,rfl,ha⟩:=hu;obtain⟨vs,row,o1,o2,o3,o4,o5,o6⟩:=hob;by_cases hcap:cap=0;subst hcap;have h0:n=0:=by omega
       refine obj (.cut id) (.arr T e' (C1 n ys)) none (.own E.heap.length) _ xs _ hat hid ?_ ?_ hd;simp only[B_];exact⟨T,e',ys,n,ho,C7 hun,hget,.inr ⟨BX ..,hnil h0⟩⟩;unfold Rep;rw[hget,BX];exact⟨a,by rw[h0]⟩;refine obj (.cut id) (.arr T e' (C1 n ys)) (m id) (.own E.heap.length) _ xs _ hat hid ?_ ?_ hd;simp only[B_];exact⟨T,e',ys,n,ho,C7 hun,hget,.inl (BX ..)⟩;unfold Rep Bq;rw[hget,BX,hm];grind
     grind;grind;grind;grind
    |box n=>simp only[dec]at h;split at h;rename_i id hl;split at h;rename_i cs ho hfr;split at h;rename_i hn;simp only[AXc]at hn;obtain⟨u,hu,hat⟩:=CY hi ht hl;obtain⟨b,cc,vs,T,b1,b2,b3,b4⟩:=hi.obj id _ ho;refine obj (.whole id) (.box (List.replicate n .Cr)) (m id) (.ptr E.heap.length 0) u d fr hat (fun i c id' hic hcid => ?_) ?_ ?_ h;rintro h;simp only[Bnd.id?,AXa]at h;subst h;exact Fa hfr i c hic hcid;simp only[B_];refine⟨BX ..,.inr (.inr (.inl ⟨cs,List.replicate n .Cr,b,cc,vs,T,ho,by simp,by simp[hn],b1,b2,?_,b4⟩))⟩;refine Dy (by rw[Ba b3];simp[hn]) fun i c v hc _ => ?_;have:=AZ9 (AXk hc);subst this;unfold Rep;trivial;unfold Rep GZ at hu ⊢;rw[ho]at hu;rw[AYF (AXl _),AY0,AYN,BX];exact hu;grind;grind;grind
    |map k v=>simp only[dec]at h;split at h;rename_i id hl;split at h;rename_i k' v' es ho hfr;split at h;rename_i es' hc;obtain⟨he,hy⟩:=C9 hc;cases he;simp only at hy;subst hy;split at h;rename_i xs bs1 g hd;simp only[AXa]at h;obtain⟨rfl,rfl,rfl⟩:=h;obtain⟨u,hu,hat⟩:=CY hi ht hl;refine obj (.whole id) (.map k v es) (m id) (.mp E.heap.length) u xs _ hat (fun i c id' hic hcid => ?_) ?_ ?_ hd;rintro h;simp only[Bnd.id?,AXa]at h;subst h;exact Fa hfr i c hic hcid;simp only[B_];exact⟨BX ..,.inr (.inl ⟨k,v,es,ho,by simp⟩)⟩;unfold Rep Ld at hu ⊢;rw[ho]at hu;rw[AYF (AXl _),AY0,AYN,BX];exact hu;grind;grind;grind;grind
    |own' j=>simp only[dec]at h;split at h;rename_i id id' hl hj;split at h;rename_i hid;simp only[AXc]at hid;subst hid;obtain⟨u,hu,hat⟩:=CY hi ht hl;exact ref (.own j) u d fr hat (AOS (hv.ob j _ hj) hu) h;grind;grind
    |ptr' j off=>simp only[dec]at h;split at h;rename_i id o id' hl hj;split at h;rename_i hid;simp only[AXd,AXc]at hid;obtain⟨rfl,rfl⟩:=hid;obtain⟨u,hu,hat⟩:=CY hi ht hl;exact ref (.ptr j o) u d fr hat (yd (hv.ob j _ hj) hu) h;grind;grind
    |sub' j=>simp only[dec]at h;split at h;rename_i id off n id' hl hj;split at h;rename_i hid;simp only[AXc]at hid;subst hid;split at h;rename_i xs bs1 g hd;simp only[AXa]at h;obtain⟨rfl,rfl,rfl⟩:=h;obtain⟨u,hu,hat⟩:=CY hi ht hl;exact ref (.win j off n) u xs _ hat (w6 (hv.ob j _ hj) hu) hd;grind;grind;grind
    |win' j=>simp only[dec]at h;split at h;rename_i id n id' hl hj;split at h;rename_i hid;simp only[AXc]at hid;subst hid;split at h;rename_i xs bs1 g hd;simp only[AXa]at h;obtain⟨rfl,rfl,rfl⟩:=h;obtain⟨u,hu,hat⟩:=CY hi ht hl;exact ref (.win j 0 n) u xs _ hat (w6 (hv.ob j _ hj) hu) hd;grind;grind;rename_i id id' hl hj;split at h;rename_i T t ys hid ho;simp only[AXc]at hid;subst hid;split at h;rename_i xs bs1 g hd;simp only[AXa]at h;obtain⟨rfl,rfl,rfl⟩:=h;obtain⟨u,hu,hat⟩:=CY hi ht hl;exact ref (.win j 0 ys.length) u xs _ hat (w6 (hv.ob j _ hj) (AS2 hi ho hu)) hd;grind;grind;grind
    |map' j=>simp only[dec]at h;split at h;rename_i id id' hl hj;split at h;rename_i hid;simp only[AXc]at hid;subst hid;obtain⟨u,hu,hat⟩:=CY hi ht hl;exact ref (.mp j) u d fr hat (AWx (hv.ob j _ hj) hu) h;grind;grind
    |clo f ps=>simp only[dec]at h;split at h;rename_i f' vs hl;split at h;rename_i hc;simp only[AXd,AXc]at hc;obtain⟨rfl,hc⟩:=hc;obtain⟨u,hu,hat⟩:=CY hi ht hl;unfold Rep at hu;obtain⟨cs,rfl,hr⟩:=hu;exact ref (.clo f (ps.map fun p=>.ptr p.1 p.2)) _ d fr hat (by unfold Rep;exact⟨cs,rfl,AUF hv.ob vs ps cs.toList hc hr⟩) h;grind;grind
    |bnd f j=>simp only[dec]at h;split at h;rename_i f' id id' hl hj;split at h;rename_i hc;simp only[AXd,AXc]at hc;obtain⟨rfl,rfl⟩:=hc;obtain⟨u,hu,hat⟩:=CY hi ht hl;unfold Rep at hu;obtain⟨cs,rfl,hr⟩:=hu;refine ref (.bnd f [.own j]) _ d fr hat ?_ h;unfold Rep;refine⟨cs,rfl,?_⟩;unfold BD at hr ⊢;obtain⟨x,xs,e1,e2,e3⟩:=hr;refine⟨x,xs,e1,AOS (hv.ob j _ hj) e2,?_⟩;unfold BD at e3 ⊢;exact e3;grind;grind
    |prs T j=>
     simp only[dec]at h;split at h;rename_i e' hl;split at h;rename_i xs bs1 g hd;simp only[AXa]at h;obtain⟨rfl,rfl,rfl⟩:=h;obtain⟨u,hu,hat⟩:=CY hi ht hl;unfold Rep at hu;refine obj .none (.prs T j []) none (.own E.heap.length) u xs _ hat (fun _ _ _ _ _=>by simp[Bnd.id?]) ?_ ?_ hd;simp only[B_];exact⟨BX ..,.inr ⟨T,j,by simp⟩⟩;unfold Rep Bq;simp only[AYF (AXl _),AY0,AYN,BX];grind;grind;rename_i id hl;split at h;rename_i T' tgt is tgt' ho hfr hj;split at h;rename_i hT;simp only[AXd,AXc]at hT;obtain⟨rfl,rfl⟩:=hT;split at h;rename_i xs bs1 g hd;simp only[AXa]at h;obtain⟨rfl,rfl,rfl⟩:=h;obtain⟨u,hu,hat⟩:=CY hi ht hl;have hbj:=hv.ob j _ hj;have hob:=hi.obj id _ ho;have hcomp:C5 E.heap (E.heap++[.prs T j is]) m' (upd m' E.heap.length (m id)):=by
      intro i x hi hf;have hlt:=BU hi;rcases C5.refl E.heap m' i x hi hf with h|⟨hd,o',h4,h5,_⟩
      grind;exact .inr ⟨hd,o',by grind,h5,Fx (by omega),fun _ _ _=>E0 (by simp)⟩
     have hob':ObI w F (upd m' E.heap.length (m id)) (E.heap++[.prs T j is]) (.prs T j is) (m id):=by
      cases hm:m id with
       |none=>rw[hm]at hob;exact hob
       |some p=>obtain⟨b,cap⟩:=p;rw[hm]at hob hcomp;obtain⟨vs,us,e1,e2,e3,e4,e5,e6⟩:=hob;exact⟨vs,us,e1,e2,e3,e4,BD.mono (fun _ _=>rfl) (fun _ h=>h) hcomp _ (ASY hbj e5),e6⟩
     refine obj (.whole id) (.prs T j is) (m id) (.own E.heap.length) u xs _ hat (fun i c id' hic hcid => ?_) ?_ ?_ hd;rintro h;simp only[Bnd.id?,AXa]at h;subst h;exact Fa hfr i c hic hcid;simp only[B_];exact⟨BX ..,.inr (.inr (.inr (.inl ⟨T,tgt,j,is,ho,by simp,hob'⟩)))⟩;unfold Rep at hu ⊢;rw[ho]at hu;rw[AYF (AXl _),AY0,AYN,BX];exact hu;grind;grind;grind;grind
    |nil e=>
     simp only[dec]at h;cases hl:look tm H bs l with
      |none=>grind
      |some v=>
       rw[hl]at h;cases v with
        |nils e'=>obtain⟨u,hu,hat⟩:=CY hi ht hl;exact ref (.nils e) u d fr hat (by unfold Rep at *;exact hu) h
        |_=>cases h
    |rows T e t=>
     simp only[dec]at h;split at h;rename_i id hl;split at h;rename_i T' e' t' ys ver ho hfr;simp only[AXd]at hfr;obtain⟨hun,hfr⟩:=hfr;split at h;rename_i ys' hT hc;simp only[AXd,AXc]at hT;obtain⟨rfl,rfl⟩:=hT;obtain⟨he,hy⟩:=C9 hc;cases he;simp only at hy;subst hy;split at h;rename_i xs bs1 g hd;simp only[AXa]at h;obtain⟨rfl,rfl,rfl⟩:=h;obtain⟨u,hu,hat⟩:=CY hi ht hl;have hrep:Rep w F (Nm m' E.heap.length (m id) fun k=>m (.r id k)) (E.heap++[.rows (.arr T) e t ys 0 none]) (.own E.heap.length) u:=by unfold Rep at hu ⊢;rw[ho]at hu;rw[AYF (AXl _),AY0,AYN,Ke];exact hu
     have h1:=hv.AWd (b:=.whole id) (o:=.rows (.arr T) e t ys 0 none) (mn:=Nm m' E.heap.length (m id) fun k=>m (.r id k)) (fun x hx=>HU hx)
      (fun i c id' hic hcid h=>by simp only[Bnd.id?,AXa]at h;subst h;exact Fa hfr i c hic hcid)
      (by simp only[B_];exact⟨Ke,.inr (.inr (.inr (.inr ⟨.arr T,e,t,ys,ver,ho,by simp,fun k=>iN,C7 hun⟩)))⟩)
     have h2:=h1.place (hat.app (.whole id)) hrep;obtain⟨F2,m2,a1,a2,rr,a3⟩:=ih fz (bs++[.whole id]) F _ _ xs _ _ hi ht h2 hd;exact⟨F2,m2,a1,a2,.whole id::rr,by grind⟩;grind;grind;grind;grind
    |mrows j e t=>
     simp only[dec]at h;split at h;rename_i id hl;split at h;rename_i j' ks e' t' ys ver ho hfr;simp only[AXd]at hfr;obtain⟨hun,hfr⟩:=hfr;split at h;rename_i ys' hT hc;simp only[AXd,AXc]at hT;obtain⟨rfl,rfl⟩:=hT;obtain⟨he,hy⟩:=C9 hc;cases he;simp only at hy;subst hy;split at h;rename_i xs bs1 g hd;simp only[AXa]at h;obtain⟨rfl,rfl,rfl⟩:=h;obtain⟨u,hu,hat⟩:=CY hi ht hl;have hrep:Rep w F (Nm m' E.heap.length (m id) fun k=>m (.r id k)) (E.heap++[.rows (.map j ks) e t ys 0 none]) (.mp E.heap.length) u:=by unfold Rep at hu ⊢;rw[ho]at hu;rw[AYF (AXl _),AY0,AYN,Ke];exact hu
     have h1:=hv.AWd (b:=.whole id) (o:=.rows (.map j ks) e t ys 0 none) (mn:=Nm m' E.heap.length (m id) fun k=>m (.r id k)) (fun x hx=>HU hx)
      (fun i c id' hic hcid h=>by simp only[Bnd.id?,AXa]at h;subst h;exact Fa hfr i c hic hcid)
      (by simp only[B_];exact⟨Ke,.inr (.inr (.inr (.inr ⟨.map j ks,e,t,ys,ver,ho,by simp,fun k=>iN,C7 hun⟩)))⟩)
     have h2:=h1.place (hat.app (.whole id)) hrep;have hzl:ks.length=List.length (α:=List t.den) ys:=by
      obtain⟨_,h4⟩:=hi.obj id _ ho;cases hm:m id with
       |none=>rw[hm]at h4;cases h4.1
       |some p=>obtain⟨b,cap⟩:=p;rw[hm]at h4;obtain⟨_,_,_,_,_,h5,_⟩:=h4;grind
     have he:enc ((l,.mrows j e t)::r) ((List.zip (β:=List t.den) ks ys,xs):Bg (leaves ((l,.mrows j e t)::r))) E=enc r xs (place (ET E (.rows (.map j ks) e t ys 0 none)) (.mp E.heap.length) l):=by simp only[enc];rw[List.map_fst_zip (AZb hzl),List.map_snd_zip (AZb hzl.symm)]
     grind;grind;grind;grind;grind
    |aptr T e n=>simp only[dec]at h;split at h;rename_i id n' hl;split at h;rename_i T' e' ys ho hfr;simp only[AXd]at hfr;obtain⟨hun,hfr⟩:=hfr;split at h;rename_i ys' hT hc;simp only[AXd,AXc]at hT;obtain⟨rfl,rfl⟩:=hT;obtain⟨he,hy⟩:=C9 hc;subst he;simp only at hy;subst hy;split at h;rename_i xs bs1 g hd;simp only[AXa]at h;obtain⟨rfl,rfl,rfl⟩:=h;obtain⟨u,hu,hat⟩:=CY hi ht hl;refine obj (.whole id) (.arr T e' ys) (m id) (.aptr E.heap.length n) u xs _ hat (fun i c id' hic hcid => ?_) ?_ ?_ hd;rintro h;simp only[Bnd.id?,AXa]at h;subst h;exact Fa hfr i c hic hcid;simp only[B_];exact⟨BX ..,.inl ⟨T,e',ys,ho,by simp,C7 hun⟩⟩;unfold Rep at hu ⊢;rw[ho]at hu;rw[AYF (AXl _),AY0,AYN,BX];exact hu;grind;grind;grind;grind
    |bndp f j=>simp only[dec]at h;split at h;rename_i f' id id' hl hj;split at h;rename_i hc;simp only[AXd,AXc]at hc;obtain⟨rfl,rfl⟩:=hc;obtain⟨u,hu,hat⟩:=CY hi ht hl;unfold Rep at hu;obtain⟨cs,rfl,hr⟩:=hu;refine ref (.bnd f [.ptr j 0]) _ d fr hat ?_ h;unfold Rep;refine⟨cs,rfl,?_⟩;unfold BD at hr ⊢;obtain⟨x,xs,e1,e2,e3⟩:=hr;refine⟨x,xs,e1,yd (hv.ob j _ hj) e2,?_⟩;unfold BD at e3 ⊢;exact e3;grind;grind
    |nilp=>
     simp only[dec]at h;cases hl:look tm H bs l with
      |none=>grind
      |some v=>
       rw[hl]at h;cases v with
        |nilp=>obtain⟨u,hu,hat⟩:=CY hi ht hl;exact ref .nilp u d fr hat (by unfold Rep at *;exact hu) h
        |_=>cases h
    |aptr' j n=>simp only[dec]at h;split at h;rename_i id n' id' hl hj;split at h;rename_i hid;simp only[AXd,AXc]at hid;obtain⟨rfl,rfl⟩:=hid;obtain⟨u,hu,hat⟩:=CY hi ht hl;exact ref (.aptr j n) u d fr hat (AUS (hv.ob j _ hj) hu) h;grind;grind
end
end Go.Pev
end
section
namespace Go.Pev
open Go.RowKit
structure Hi(np:Nat)(w:World)(F:Nat→Prop)(m:Mp)(H:List Ob)(fz:List Bool)(w':World)(F':Nat→Prop)(m':Mp)(H':List Ob)(fz':List Bool):Prop where
 os:w'.os=w.os
 tape:w'.tape=w.tape
 output:w'.output=w.output
 size:w.heap.size≤w'.heap.size
 keep:∀ b,b<w.heap.size→(∀ i c,owned H fz i→m i≠some (b,c))→w'.heap[b]? = w.heap[b]?
 sub:∀ b,F b→F' b
 bnd:∀ b,F' b→F b∨(∃ i c,owned H fz i∧m i=some (b,c))∨w.heap.size≤b
 own:∀ i b c,owned H' fz' i→m' i=some (b,c)→(∃ i c,owned H fz i∧m i=some (b,c))∨w.heap.size≤b
 comp:∀ (i:Nat) o,i<np→H[i]? = some o→o≠.free→H'[i]? = some .dead∨(o≠.dead∧∃ o',H'[i]? = some o'∧sameShape o o'∧m' i=m i∧(CA o=false→PQ o'=PQ o→∀ k,m' (.r i k)=m (.r i k)))
theorem Ext.toN{w w':World}{F F':Nat→Prop}{m m':Mp}{H H':List Ob}{fz fz':List Bool}(h:Ext w F m H fz w' F' m' H' fz')(np:Nat):Hi np w F m H fz w' F' m' H' fz':=
 ⟨h.os,h.tape,h.output,h.size,h.keep,h.sub,h.bnd,h.own,fun i o _=>h.comp i o⟩
theorem Hi.refl(np:Nat)(w:World)(F:Nat→Prop)(m:Mp)(H:List Ob)(fz:List Bool):Hi np w F m H fz w F m H fz:=(Ext.refl ..).toN np
theorem Hi.trans{np:Nat}{w w1 w2:World}{F F1 F2:Nat→Prop}{m m1 m2:Mp}{H H1 H2:List Ob}{fz fz1 fz2:List Bool}
  (h:Hi np w F m H fz w1 F1 m1 H1 fz1) (k:Hi np w1 F1 m1 H1 fz1 w2 F2 m2 H2 fz2):Hi np w F m H fz w2 F2 m2 H2 fz2 where
 os:=k.os.trans h.os
 tape:=k.tape.trans h.tape
 output:=k.output.trans h.output
 size:=AYx h.size k.size
 keep b hb hn:=by rw[k.keep b (AYl hb h.size) ?_,h.keep b hb hn];intro i c ho he;rcases h.own i b c ho he with⟨i',c',h1,h2⟩|h1;all_goals grind
 sub b hb:=k.sub b (h.sub b hb)
 bnd b hb:=by
  rcases k.bnd b hb with h1|⟨i,c,h1,h2⟩|h1;exact h.bnd b h1;·rcases h.own i b c h1 h2 with h3|h3;all_goals grind
  exact .inr (.inr (AYx h.size h1))
 own i b c h1 h2:=by rcases k.own i b c h1 h2 with⟨i',c',h3,h4⟩|h3;exact h.own i' b c' h3 h4;exact .inr (AYx h.size h3)
 comp i o hlt ho hf:=by
  rcases h.comp i o hlt ho hf with h1|⟨hd,o',h1,h2,h3,hp⟩
  ·rcases k.comp i _ hlt h1 (by simp)with h4|⟨h5,_⟩
   all_goals grind
  have hf':o'≠.free:=by rintro rfl;cases o<;>simp[sameShape]at h2
  rcases k.comp i o' hlt h1 hf' with h4|⟨_,o'',h4,h5,h6,hq⟩
  grind;refine .inr ⟨hd,o'',h4,h2.trans h5,h6.trans h3,fun a b k => ?_⟩;have h8:=h2.ver;have h9:=h5.ver;grind
section
variable {w:World} {F:Nat→Prop} {m:Mp} {H:List Ob} {fz:List Bool} {bs:List Bnd} {m':Mp} {E:St} {val:Nat→Value}
def Ix.at:Ix→Nat→Ix
 |.o _,i=>.o i
 |.r _ k,i=>.r i k
theorem Ix.AU0(x:Ix)(i:Nat):(x.at i).id=i:=by cases x<;>rfl
theorem Inv.AXP(h:Inv w F m H fz bs m' E val){i b c:Nat}(ho:owned E.heap E.frz i)(hm:m' i=some (b,c)):∃ x id,bs[i]? = some x∧x.id? = some id∧owned H fz id∧m id=some (b,c):=by
 obtain⟨o,hio,_,_⟩:=FG ho;have hlt:=BU hio;rw[h.lenH]at hlt;have hx:bs[i]? = some bs[i]:=AXj hlt;have hb:=h.ob i _ hx;cases hc:bs[i]with
  |none=>rw[hc]at hb;simp only[B_]at hb;grind
  |whole id=>rw[hc]at hb hx;simp only[B_]at hb;obtain⟨e,hb⟩:=hb;refine⟨_,id,hx,rfl,?_,by grind⟩;simp only[owned,Cd];grind
  |cut id=>rw[hc]at hb hx;simp only[B_]at hb;obtain⟨T,t,xs,n,a1,a2,a3,a4⟩:=hb;refine⟨_,id,hx,rfl,by simp only[owned,Cd];grind,?_⟩;grind
theorem Inv.rowAt(h:Inv w F m H fz bs m' E val){j:Nat}{T:RK}{e:TypeId}{t:Ty}{xs:List (List t.den)}{ver:Nat}{out:Option Nat}(hj:E.heap[j]? = some (.rows T e t xs ver out)):
  ∃ id ver',bs[j]? = some (.whole id)∧H[id]? = some (.rows T e t xs ver' none)∧out=none∧m' j=m id∧(∀ k,m' (.r j k)=m (.r id k))∧fz.getD id false=false:=by
 have hlt:=BU hj;rw[h.lenH]at hlt;have hx:bs[j]? = some bs[j]:=AXj hlt;have hb:=h.ob j _ hx;cases hc:bs[j]with
  |none=>rw[hc]at hb;simp only[B_]at hb;grind
  |whole id=>rw[hc]at hb hx;simp only[B_]at hb;grind
  |cut id=>rw[hc]at hb;simp only[B_]at hb;grind
theorem Inv.src(h:Inv w F m H fz bs m' E val){i:Ix}{b c:Nat}(ho:owned E.heap E.frz i)(hm:m' i=some (b,c)):∃ x id,bs[i.id]? = some x∧x.id? = some id∧owned H fz (i.at id)∧m (i.at id)=some (b,c):=by
 cases i with
  |o i=>exact h.AXP ho hm
  |r i k=>simp only[owned]at ho;split at ho;rename_i T e t xs ver out hj;obtain⟨id,ver',a1,a2,_,_,a5,a6⟩:=h.rowAt hj;exact⟨_,id,a1,rfl,by simp only[owned,Ix.at];grind,(a5 k).symm.trans hm⟩;grind
theorem Inv.hi(hi:HI w F m H fz)(h:Inv w F m H fz bs m' E val):HI w F m' E.heap E.frz where
 obj j o hj:=by
  have hlt:=BU hj;rw[h.lenH]at hlt;have hx:bs[j]? = some bs[j]:=AXj hlt;have hb:=h.ob j _ hx;cases hc:bs[j]with
   |none=>rw[hc]at hb;simp only[B_]at hb;obtain⟨e1,⟨T,e,e2,e3⟩|⟨T,t,e2⟩⟩:=hb;rw[hj]at e2;cases e2;exact⟨e3,by rw[e1]⟩;rw[hj]at e2;cases e2;rw[e1];exact(rfl:([]:List Int)=[])
   |whole id=>
    rw[hc]at hb;simp only[B_]at hb;obtain⟨e,hb⟩:=hb;rcases hb with⟨T,t,xs,a1,a2,a3⟩|⟨k,v,es,a1,a2⟩|⟨cs,cs',b,c,vs,T,a1,a2,_,a4,a5,a6,a7⟩|⟨T,tgt,j0,is,a1,a2,a3⟩|⟨T,e',t,xs,ver,a1,a2,a3⟩
    rw[hj]at a2;cases a2;rw[e];exact hi.obj id _ a1;rw[hj]at a2;cases a2;rw[e];exact hi.obj id _ a1;rw[hj]at a2;cases a2;exact⟨b,c,vs,T,e.trans a4,a5,a6,a7⟩;grind;rw[hj]at a2;cases a2;rw[e];exact hi.obj id _ a1
   |cut id=>
    rw[hc]at hb;simp only[B_]at hb;obtain⟨T,t,xs,n,a1,a2,a3,a4⟩:=hb;rw[hj]at a3;cases a3;obtain⟨h0,h1⟩:=hi.obj id _ a1;refine⟨h0,?_⟩;rcases a4 with a4|⟨a4,a5⟩
    ·rw[a4];cases hm:m id with
      |none=>grind
      |some p=>obtain⟨b,cap⟩:=p;rw[hm]at h1;simp only at h1 ⊢;obtain⟨vs,row,b1,b2,b3,b4,b5,b6⟩:=h1;refine⟨vs,row.take (n*t.size),b1,?_,b3,b4,EZ (fun x cs hx=>Dat.length t hx) n b5,?_⟩;all_goals grind
    grind
 row i:=by intro T e t xs ver out hj k ys hk;obtain⟨id,ver',a1,a2,rfl,a4,a5,_⟩:=h.rowAt hj;obtain⟨h1,h2⟩:=hi.row id T e t xs ver' none a2 k ys hk;rw[a5 k];refine⟨?_,fun _ => ?_⟩;obtain⟨h0,h1⟩:=h1;exact⟨h0,h1⟩;grind
 rfz i T e t xs ver out hj hf:=by rw[h.frz i]at hf;cases hf
 sep i j b c b' c' h1 h2 hij h3 h4:=by
  obtain⟨x,id,k1,k2,k3,k4⟩:=h.src h1 h3;obtain⟨y,id',l1,l2,l3,l4⟩:=h.src h2 h4;refine hi.sep _ _ b c b' c' k3 l3 ?_ k4 l4;intro he;have hid:id=id':=by rw[← Ix.AU0 i id,he,Ix.AU0]
  subst hid;have:=h.inj _ _ x y id k1 l1 k2 l2;cases i<;>cases j<;>simp only[Ix.at,Ix.id]at he this<;>(grind)<;>subst this<;>exact hij rfl
 off i b c h1 h2:=by obtain⟨x,id,k1,k2,k3,k4⟩:=h.src h1 h2;exact hi.off _ b c k3 k4
 froz i T t xs b c h1 h2:=by rw[h.frz i]at h2;cases h2
 lt:=hi.lt
 glo:=hi.glo
 len:=h.lenF.symm
theorem qG:∀ (n i:Nat) (bs:List Bnd),pins n i bs=true→∀ k,k<n→bs[k]? = some (.whole (i+k)):=by
 intro n;induction n with
  |zero=>omega
  |succ n ih=>
   intro i bs h k hk;cases bs with
    |nil=>simp[pins]at h
    |cons b bs=>
     simp only[pins,AXd,AXc]at h;cases k with
      |zero=>grind
      |succ k=>grind
theorem Inv.blank{val:Nat→Value}(n:Nat):Inv w F m H fz [] (fun _=>none) (Pev.blank n) val where
 tmps t:=by rw[show(Pev.blank n).tmps.f t = .Cr from rfl];unfold Rep;trivial
 lenH:=rfl
 lenF:=rfl
 frz i:=by simp[Pev.blank]
 ob j b h:=by simp at h
 inj i j b c id h:=by simp at h
theorem ym(st:St)(v:AV)(l:Loc):(place st v l).tmps.n=st.tmps.n:=by
 cases l with
  |tmp t=>rfl
  |cell j c=>simp only[place];grind
  |cap t i=>rfl
  |obj j=>rfl
theorem AP1:∀ (its:A1) (d:Bg (leaves its)) (st:St),(enc its d st).tmps.n=st.tmps.n:=by
 intro its;induction its with
  |nil=>intro d st;rfl
  |cons p r ih=>intro d st;obtain⟨l,c⟩:=p;cases c<;>exact(ih _ _).trans (ym _ _ _)
theorem Mf(n:Nat)(its:A1)(d:Bg (leaves its)):(encode n its d).tmps.n=n:=by unfold encode;rw[AP1];simp[blank]
theorem AIF{F2:Nat→Prop}{fz2:List Bool}{np:Nat}(h:Inv w F2 m H fz2 bs m' E val)(hp:(pins np 0 bs&&(H.take np).all CA)=true):∀ (i:Nat) o,i<np→H[i]? = some o→o≠.free→E.heap[i]? = some .dead∨(o≠.dead∧∃ o',E.heap[i]? = some o'∧sameShape o o'∧m' i=m i∧(CA o=false→PQ o'=PQ o→∀ k,m' (.r i k)=m (.r i k))):=by
 intro i o hlt ho hf;rw[AXd]at hp;obtain⟨hp,hall⟩:=hp;have hpl:CA o=true:=AXy.1 hall o (AXk (i:=i) (by grind))
 suffices hs:E.heap[i]? = some .dead∨(o≠.dead∧∃ o',E.heap[i]? = some o'∧sameShape o o'∧m' i=m i)from
  hs.imp id fun ⟨a,o',b,c,d⟩=>⟨a,o',b,c,d,fun e=>by grind⟩
 have h1:=qG np 0 bs hp i hlt;rw[AYQ]at h1;have hb:=h.ob i _ h1;simp only[B_]at hb;obtain⟨e,hb⟩:=hb;right;rcases hb with⟨T,t,xs,a1,a2,a3⟩|⟨k,v,es,a1,a2⟩|⟨cs,cs',b,c,vs,T,a1,a2,_,a4,a5,a6,a7⟩|⟨_,_,_,_,a1,a2,_⟩|⟨_,_,_,_,_,a1,a2,_⟩
 rw[ho]at a1;cases a1;exact⟨by simp,_,a2,⟨rfl,rfl⟩,e⟩;rw[ho]at a1;cases a1;exact⟨by simp,_,a2,trivial,e⟩;rw[ho]at a1;cases a1;exact⟨by simp,_,a2,trivial,e⟩;rw[ho]at a1;cases a1;exact⟨by simp,_,a2,rfl,e⟩;rw[ho]at a1;cases a1;cases hpl
theorem GS[DfI]{np nt:Nat}{st:St}{a:Act}{its:A1}{v:Bg (leaves its)}(hs:SI w F m st a)(h:decode np nt st its=some v):
  ∃ F' m',SI w F' m' (encode nt its v) a∧Hi np w F m st.heap st.frz w F' m' (encode nt its v).heap (encode nt its v).frz:=by
 unfold decode at h;split at h;rename_i hn;simp only[AXc]at hn;split at h;rename_i v' bs fr hd;split at h;rename_i hp;simp only[AXa]at h;subst h
 obtain⟨F2,m2,hg,hv,_⟩:=AA5 (val:=fun t=>a.tmps.getD t undef) its st.frz [] F (fun _=>none) (blank nt) v' bs fr hs.heap
  (fun t v ht=>by rw[(Tm.AUO ht).1];exact hs.tmps t) (Inv.blank nt) hd
 refine⟨F2,m2,⟨hv.tmps,by rw[Mf,← hn];exact hs.size,hv.hi hg.2,hs.defers⟩,?_⟩;refine⟨rfl,rfl,rfl,AXl _,fun _ _ _=>rfl,hg.1.sub,hg.1.bnd,fun i b c h1 h2 => ?_,AIF hv hp⟩;obtain⟨x,id,k1,k2,k3,k4⟩:=hv.src h1 h2;exact hg.1.own _ b c k3 k4;grind;grind;grind
end
end Go.Pev
end
section
namespace Go.Pev
open Go.RowKit
theorem MY{R:Type}{all:List Oper}{g:Option (Nat×Bool)}{st:St}{yes no:St→Option R}{r:R}(h:guarded R all g st yes no=some r):
  ∃ st',(yes st'=some r∧∀ (R':Type) (yes' no':St→Option R'),guarded R' all g st yes' no'=yes' st')∨(no st'=some r∧∀ (R':Type) (yes' no':St→Option R'),guarded R' all g st yes' no'=no' st'):=by
 unfold guarded at h;split at h;exact⟨st,.inl ⟨h,fun _ _ _=>by simp[guarded]⟩⟩;rename_i j want;split at h;cases h;rename_i d hj;split at h;rename_i b hd;cases b with
  |true=>
   cases want with
    |true=>exact⟨_,.inl ⟨h,fun _ _ _=>by simp only[guarded,hj,hd]⟩⟩
    |false=>exact⟨_,.inr ⟨h,fun _ _ _=>by simp only[guarded,hj,hd]⟩⟩
  |false=>
   cases want with
    |true=>exact⟨_,.inr ⟨h,fun _ _ _=>by simp only[guarded,hj,hd]⟩⟩
    |false=>exact⟨_,.inl ⟨h,fun _ _ _=>by simp only[guarded,hj,hd]⟩⟩
 rename_i hd;exact⟨_,.inr ⟨h,fun _ _ _=>by simp only[guarded,hj,hd]⟩⟩;grind
section
variable [DfI] {P:Program} {E:Env}
theorem cq(hE:∀ g,BV P g (E.spec g)){R:Type}{r:R}{all:List Oper}{o:Oper}{φ:List Nat}{slot:Nat}{st:St}{k:St→Option R}(h:Pa P E R all o φ slot st k=some r):
  ∃ st',k st'=some r∧∀ (R':Type) (k':St→Option R'),Pa P E R' all o φ slot st k'=k' st':=by
 unfold Pa at h;obtain⟨st1,h1⟩:=MY h;rcases h1 with⟨h1,h2⟩|⟨h1,h2⟩
 split at h1;rename_i hw;obtain⟨v,e,h3,h4,_⟩:=Eg hE o.op _ _ _ _ _ _ _ r h1;split at h3;rename_i hok;exact⟨_,h3,fun R' k'=>by unfold Pa;grind⟩;grind;grind;exact⟨_,h1,fun R' k'=>by unfold Pa;rw[h2]⟩
theorem SI.Cr{w:World}{F:Nat→Prop}{m:Mp}{st:St}{a:Act}(h:SI w F m st a)(d:Option Tmp):SI w F m (st.put d .Cr) a:=by
 cases d with
  |none=>exact h
  |some d=>refine⟨fun t => ?_,h.size,h.heap,h.defers⟩;simp only[St.put,Tm.TG];split;exact(by unfold Rep;trivial:Rep w F m st.heap .Cr _);exact h.tmps t
theorem Er(st:St)(d:Option Tmp)(v:AV):(st.put d v).heap=st.heap∧(st.put d v).frz=st.frz:=by cases d<;>exact⟨rfl,rfl⟩
theorem AAN:∀ (l:List Oper) (st:St),(Fv l st).heap=st.heap∧(Fv l st).frz=st.frz:=by
 intro l;induction l with
  |nil=>exact fun st=>⟨rfl,rfl⟩
  |cons o l ih=>intro st;exact⟨(ih _).1.trans (Er ..).1,(ih _).2.trans (Er ..).2⟩
theorem SI.Fv{w:World}{F:Nat→Prop}{m:Mp}{a:Act}:∀ (l:List Oper) {st:St},SI w F m st a→SI w F m (Pev.Fv l st) a:=by
 intro l;induction l with
  |nil=>exact fun h=>h
  |cons o l ih=>exact fun h=>ih (h.Cr o.dst)
theorem ASW(st:St)(d:Option Tmp)(u v:AV):(st.put d u).put d v=st.put d v:=by
 cases d with
  |none=>rfl
  |some d=>simp only[St.put,Tm.set_set]
theorem eS:∀ (l:List Oper) (st:St) (x:Oper) (v:AV),x∈l→Pev.Fv l (st.put x.dst v)=Pev.Fv l st:=by
 intro l;induction l with
  |nil=>simp
  |cons o l ih=>intro st x v hx;simp only[Pev.Fv];by_cases he:o.dst=x.dst;rw[he,ASW];have hc:∀ d,x.dst=some d→o.dst≠some d:=fun d h1 h2=>he (h2.trans h1.symm);rw[St.put_comm st v .Cr hc];grind
def Le(E:Env)(o:Oper)(slot:Nat)(st:St)(p:PV)(e:Eff):Prop:=
 o.guard=none∧((∃ x,o.op = .panic x∧BY st.tmps x = .ifc (some p)∧e = {}) ∨
  ∃ f args ts s,o.op = .call { callee:=.value (.func f),args:=args,argTypes:=ts }∧E.pan f=some s ∧
   ∀ (R:Type) (k:AV→Eff→Option R) (kp:PV→Eff→Option R),s R (args.toList.map (BY st.tmps)) st.heap st.frz slot k kp=kp p e)
theorem ZO{w:World}{F:Nat→Prop}{m:Mp}{H:List Ob}{ρ:Operand→AV}{a:Act}(hr:∀ x,Rep w F m H (ρ x) (a.eval x))(args:Array Operand):BD w F m H (args.toList.map ρ) (args.map a.eval).toList:=by rw[AYy];exact Dy (by simp) fun i c v hc hv=>by grind
theorem px(hP:Fs P E){o:Oper}{slot:Nat}{st:St}{p:PV}{e:Eff}(h:Le E o slot st p e){w:World}{F:Nat→Prop}{m:Mp}{a:Act}(hs:SI w F m st a){next:Act→World→Prop}{Q:Exit→Act→World→Prop}
  (hq:∀ w' F' m',BQ w F m st.heap st.frz w' F' m' (Cy e st.heap) (Ev e st.frz)→Q (.panic [Cz p]) a w'):o.wp P a w next Q:=by
 obtain⟨_,⟨x,ho,hx,rfl⟩|⟨f,args,ts,s,ho,hf,hsp⟩⟩:=h;have hr:=Et hs.tmps x;rw[hx]at hr;unfold Rep at hr;unfold Oper.wp;have hrun:(execOp a.eval o).run P w = .halt (.panic (Ji (some p))) w:=by obtain⟨T,l⟩:=p;simp only[Ji]at hr;simp[execOp,ho,hr,Instr.panic,goPanic,Ji]
 rw[hrun];exact hq w F m (BQ.refl hs.heap);obtain h1|h1:=hP f s hf (PV×Eff) (args.toList.map (BY st.tmps)) st.heap st.frz slot (fun _ _=>none) (fun p e=>some (p,e)) (p,e) (hsp _ _ _);grind;obtain⟨p',e',h2,_,h3,h4⟩:=h1;simp only[AXa,AXt]at h2;obtain⟨rfl,rfl⟩:=h2;have hcall:=h4 w F m _ hs.heap (ZO (fun x=>Et hs.tmps x) args);rw[AZV]at hcall;unfold Oper.wp;have hrun:(execOp a.eval o).run P w = .ok (.enter f (args.map a.eval)) w:=by simp[execOp,ho,resolve,Act.eval,Deferred.ofValue,invoke,h3 _ w]
 rw[hrun];exact hcall.mono fun en w' ⟨hen,F',m',hg⟩=>by grind
theorem Gy(hP:Fs P E){R:Type}{r:R}{o:Oper}{st:St}{slot:Nat}{q:PV⊕(KS×List AV)}(h:TY E (BY st.tmps) o=some q){k:AV→Eff→Option R}{kp:PV→Eff→Option R}
  (hk:(match q with
   |.inl p=>kp p {}
   |.inr (s,args)=>s R args st.heap st.frz slot k kp)=some r) :
  (∃ p e,kp p e=some r∧Le E o slot st p e∧∀ (R':Type) (k':AV→Eff→Option R') (kp':PV→Eff→Option R'),(match q with
   |.inl p=>kp' p {}
   |.inr (s,args)=>s R' args st.heap st.frz slot k' kp')=kp' p e) ∨
  (∃ s args v e,q = .inr (s,args)∧o.guard=none∧k v e=some r∧(∀ (R':Type) (k':AV→Eff→Option R'),evalOp P E R' o.op o.type (BY st.tmps) st.heap st.frz slot k'=k' v e) ∧
   ∀ (R':Type) (k':AV→Eff→Option R') (kp':PV→Eff→Option R'),s R' args st.heap st.frz slot k' kp'=k' v e):=by
 unfold TY at h;split at h;cases h;rename_i hg;split at h;rename_i x ho;split at h;rename_i p hx;simp only[AXa]at h;subst h;exact .inl ⟨p,{},hk,⟨hg,.inl ⟨x,ho,hx,rfl⟩⟩,fun _ _ _=>rfl⟩;grind;rename_i f args ts ho;split at h;rename_i s hf;simp only[AXa]at h;subst h;simp only at hk;rcases hP f s hf R _ _ _ _ _ _ _ hk with⟨v,e,h1,h2,h3⟩|⟨p,e,h1,h2,_,_⟩
 refine .inr ⟨s,_,v,e,rfl,hg,h1,fun R' k' => ?_,h2⟩;rw[ho];simp only[evalOp,Jn,BY,AYf];grind;exact .inl ⟨p,e,h1,⟨hg,.inr ⟨f,args,ts,s,ho,hf,h2⟩⟩,h2⟩;grind;grind
theorem qL(hE:∀ g,BV P g (E.spec g))(hP:Fs P E){R:Type}{r:R}{dr:Bool}{all:List Oper}:∀ (rest:List Oper) (fp:List (List Nat)) (slot:Nat) (st:St) (k:Exit→St→Option R),Ch P E R dr all rest fp slot st k=some r →
  ∃ e st',k e st'=some r∧∀ (R':Type) (k':Exit→St→Option R'),Ch P E R' dr all rest fp slot st k'=k' e st':=by
 intro rest;induction rest with
  |nil=>intro fp slot st k h;exact⟨_,_,h,fun _ _=>rfl⟩
  |cons o rest ih=>
   intro fp slot st k h;simp only[Ch]at h;cases hpo:TY E (BY st.tmps) o with
    |none=>
     rw[hpo]at h;cases dr with
      |true=>obtain⟨s1,h1,h2⟩:=cq hE h;obtain⟨e,s2,h3,h4⟩:=ih _ _ _ _ h1;exact⟨e,s2,h3,fun R' k'=>by simp only[Ch,hpo];grind⟩
      |false=>
       obtain⟨s1,h1⟩:=MY h;rcases h1 with⟨h1,h2⟩|⟨h1,h2⟩
       obtain⟨v,e,h3,h4,_⟩:=Eg hE o.op _ _ _ _ _ _ _ r h1;obtain⟨e2,s2,h5,h6⟩:=ih _ _ _ _ h3;exact⟨e2,s2,h5,fun R' k'=>by simp only[Ch,hpo];grind⟩;obtain⟨e2,s2,h5,h6⟩:=ih _ _ _ _ h1;exact⟨e2,s2,h5,fun R' k'=>by simp only[Ch,hpo];grind⟩
    |some q=>
     rw[hpo]at h;cases q with
      |inl p=>exact⟨_,_,h,fun R' k'=>by simp only[Ch,hpo]⟩
      |inr sa=>
       obtain⟨s,args⟩:=sa;simp only at h;rcases Gy hP (q:=.inr (s,args)) hpo h with⟨p,e,h1,_,h3⟩|⟨s',args',v,e,h0,_,h1,_,h3⟩
       exact⟨_,_,h1,fun R' k'=>by simp only[Ch,hpo];grind⟩;cases h0;split at h1;rename_i hc;obtain⟨e2,s2,h5,h6⟩:=ih _ _ _ _ h1;exact⟨e2,s2,h5,fun R' k'=>by simp only[Ch,hpo];grind⟩;grind
theorem KY{ops:Array Oper}{Q:Exit→Act→World→Prop}{i:Nat}{rest:List Nat}{a:Act}{w:World}{o:Oper}(ho:ops[i]? = some o)(hg:o.guard=none)(h:o.wp P a w (wpOps P ops Q rest) Q):wpOps P ops Q (i::rest) a w:=by simp only[wpOps,ho];rw[AXp (by simp[Region.wanted,hg])];grind
theorem qK(hE:∀ g,BV P g (E.spec g))(hP:Fs P E){ops:Array Oper}{Q:Exit→Act→World→Prop}{e:Exit}{st':St}:∀ (rest pre:List Oper) (fp:List (List Nat)) (slot:Nat) (st:St) (w:World) (F:Nat→Prop) (m:Mp) (a:Act),ops.toList=pre++rest →
  Ch P E (Exit×St) false ops.toList rest fp slot st (fun e s=>some (e,s))=some (e,st')→SI w F m st a →
  (∀ a' w' F' m',SI w' F' m' st' a'→Ext w F m st.heap st.frz w' F' m' st'.heap st'.frz→Q e a' w')→wpOps P ops Q (List.range' pre.length rest.length) a w:=by
 intro rest;induction rest with
  |nil=>intro pre fp slot st w F m a _ h hs hq;simp only[Ch,AXa,AXt]at h;obtain⟨rfl,rfl⟩:=h;exact hq a w F m hs (Ext.refl ..)
  |cons o rest ih=>
   intro pre fp slot st w F m a hops h hs hq;have hget:ops[pre.length]? = some o:=by rw[← AYY,hops];simp
   have hops':ops.toList=(pre++[o])++rest:=by grind
   have hlen:(pre++[o]).length=pre.length+1:=by simp
   rw[AXg,AYz];simp only[Ch]at h;cases hpo:TY E (BY st.tmps) o with
    |none=>
     rw[hpo]at h;simp only at h;simp only[wpOps,hget];obtain⟨s1,hs',e1,e2,hh⟩:=O6 hs h;rcases hh with⟨hw,hy⟩|⟨hw,hn⟩
     rw[AXp hw];left;obtain⟨v,ef,h1,_,h3⟩:=Eg hE o.op _ _ _ _ _ _ _ _ hy;refine h3 w F m a o _ Q rfl rfl hs'.heap (fun x=>Et hs'.tmps x) fun u w' F' m' hg hr => ?_;have hs2:=(hs'.go hg).put hr o.dst;have:=ih (pre++[o]) _ _ _ w' F' m' (a.put o.dst u) hops' h1 hs2 fun a' w'' F2 m2 q2 q3=>hq a' w'' F2 m2 q2 (by have hx:=hg.1;rw[e1,e2]at hx;refine hx.trans ?_;have hh:=Er (s1.app ef) o.dst v;rw[hh.1,hh.2]at q3;simp only[St.app,e1,e2]at q3;exact q3)
     grind;rw[AXo (by simp[hw])];have hs2:SI w F m (s1.put o.dst CK) (a.put o.dst undef):=hs'.put Pc o.dst;have:=ih (pre++[o]) _ _ _ w F m (a.put o.dst undef) hops' hn hs2 fun a' w'' F2 m2 q2 q3=>hq a' w'' F2 m2 q2 (by have hh:=Er s1 o.dst CK;grind)
     grind
    |some q=>
     rw[hpo]at h;have stop:∀ p ef,Le E o slot st p ef→e = .panic [Cz p]→st'=st.app ef→wpOps P ops Q (pre.length::List.range' (pre.length+1) rest.length) a w:=by intro p ef hst he hst';subst he;subst hst';refine KY hget hst.1 (px hP hst hs fun w' F' m' hg => ?_);exact hq a w' F' m' (hs.go hg) hg.1
     cases q with
      |inl p=>
       simp only[AXa,AXt]at h;rcases Gy hP (R:=Unit) (r:=()) (slot:=slot) (k:=fun _ _=>none) (kp:=fun p' e'=>some ()) (q:=.inl p) hpo rfl with⟨p',ef,_,h2,h3⟩|⟨_,_,_,_,h0,_⟩
       have h4:=h3 (PV×Eff) (fun _ _=>none) fun p e=>some (p,e);simp only[AXa,AXt]at h4;obtain⟨rfl,rfl⟩:=h4;exact stop p {} h2 h.1.symm h.2.symm;grind
      |inr sa=>
       obtain⟨s,args⟩:=sa;simp only at h;rcases Gy hP (q:=.inr (s,args)) hpo h with⟨p,ef,h1,h2,_⟩|⟨s',args',v,ef,h0,hg,h1,h2,_⟩
       simp only[AXa,AXt]at h1;exact stop p ef h2 h1.1.symm h1.2.symm;simp only[AYL,Bool.true_or]at h1;obtain⟨v',e',c1,_,c3⟩:=Eg hE o.op (AV×Eff) o.type (BY st.tmps) st.heap st.frz slot (fun v e=>some (v,e)) (v,ef) (h2 _ _);simp only[AXa,AXt]at c1;obtain⟨rfl,rfl⟩:=c1;refine KY hget hg (c3 w F m a o _ Q rfl rfl hs.heap (fun x=>Et hs.tmps x) fun u w' F' m' hgo hr => ?_);have hs2:=(hs.go hgo).put hr o.dst;have:=ih (pre++[o]) _ _ _ w' F' m' (a.put o.dst u) hops' h1 hs2 fun a' w'' F2 m2 q2 q3=>hq a' w'' F2 m2 q2 (by refine hgo.1.trans ?_;have hh:=Er (st.app e') o.dst v';rw[hh.1,hh.2]at q3;exact q3)
       grind
theorem ANN{o:Oper}{φ:List Nat}{st:St}{slot n:Nat}{e:Eff}(hw:ANO E o φ st=true)(he:(Kk φ||Qx (writer o.op||Lm φ) φ slot n e)=true):Kk φ=true∨(Kn E st.heap (BY st.tmps) o.op φ∧Qx (writer o.op||Lm φ) φ slot n e=true):=by unfold ANO at hw;simp only[AYe,AXd]at hw;rw[AYe]at he;rcases hw with hw|hw;grind;rcases he with he|he;grind;refine .inr ⟨?_,he⟩;rcases hw with hw|hw;exact .inl hw;exact .inr ⟨hw.2.1.1,hw.2.1.2,hw.2.2⟩
theorem AOR{o:Oper}{ρ:Operand→AV}{q:PV⊕(KS×List AV)}(h:TY E ρ o=some q):TZ E [o]=true:=by unfold TY at h;unfold TZ;grind
theorem aW(hE:∀ g,BV P g (E.spec g))(hP:Fs P E){all:List Oper}{fp:List (List Nat)}{base:Nat}{e:Exit}{st':St}:∀ (rest pre:List Oper) (fp':List (List Nat)) (slot:Nat) (st:St),
  all=pre++rest→fp'=fp.drop pre.length→slot=Bz all base pre.length→Ch P E (Exit×St) true all rest fp' slot st (fun e s=>some (e,s))=some (e,st') →
  (e = .normal∧HS P E all (fun i=>fp.getD i []) (Bz all base) (List.range' pre.length rest.length) st st') ∨
  ∃ n o p ef st1,all[pre.length+n]? = some o∧TZ E [o]=true∧HS P E all (fun i=>fp.getD i []) (Bz all base) (List.range' pre.length n) st st1∧Le E o (Bz all base (pre.length+n)) st1 p ef∧e = .panic [Cz p]∧st'=Fv all (st1.app ef):=by
 intro rest;induction rest with
  |nil=>intro pre fp' slot st _ _ _ h;simp only[Ch,AXa,AXt]at h;exact .inl ⟨h.1.symm,h.2⟩
  |cons o rest ih=>
   intro pre fp' slot st hall hfp hsl h;have hlen:(pre++[o]).length=pre.length+1:=by simp
   have hfp1:fp'.headD []=fp.getD pre.length []:=by simp_all
   have hfp2:fp'.tail=fp.drop (pre++[o]).length:=by simp_all
   have hs2:slot+slotsOf o.op=Bz all base (pre++[o]).length:=by
    rw[hsl,hlen];unfold Bz;have e1:all.take (pre.length+1)=pre++[o]:=by grind
    have e2:all.take pre.length=pre:=by grind
    rw[e1,e2,IQ];simp[Cq];omega
   have ho:all[pre.length]? = some o:=by grind
   have go:∀ s1,C_ P E all o (fp'.headD []) slot st s1→Ch P E (Exit×St) true all rest fp'.tail (slot+slotsOf o.op) s1 (fun e s=>some (e,s))=some (e,st') →
     (e = .normal∧HS P E all (fun i=>fp.getD i []) (Bz all base) (List.range' pre.length (o::rest).length) st st') ∨
     ∃ n o p ef st1,all[pre.length+n]? = some o∧TZ E [o]=true∧HS P E all (fun i=>fp.getD i []) (Bz all base) (List.range' pre.length n) st st1∧Le E o (Bz all base (pre.length+n)) st1 p ef∧e = .panic [Cz p]∧st'=Fv all (st1.app ef):=by
    intro s1 h1 h2
    rw[hfp1,hsl]at h1
    rcases ih (pre++[o]) _ _ s1 (by grind) hfp2 hs2 h2 with⟨he,hc⟩|⟨n,o2,p,ef,st1,g1,g2,g3,g4,g5⟩
    ·rw[hlen]at hc
     exact .inl ⟨he,by rw[AXg,AYz];exact⟨o,s1,ho,h1,hc⟩⟩
    ·rw[hlen]at g1 g3 g4
     refine .inr ⟨n+1,o2,p,ef,st1,by grind,g2,by rw[AYz];exact⟨o,s1,ho,h1,g3⟩,by grind,g5⟩
   simp only[Ch]at h;cases hpo:TY E (BY st.tmps) o with
    |none=>rw[hpo]at h;simp only at h;obtain⟨s1,h1,h2⟩:=W0 hE h;exact go s1 h1 h2
    |some q=>
     rw[hpo]at h
     have stop:∀ p ef,Le E o slot st p ef→e = .panic [Cz p]→st'=Fv all (st.app ef)→∃ n o p ef st1,all[pre.length+n]? = some o∧TZ E [o]=true∧HS P E all (fun i=>fp.getD i []) (Bz all base) (List.range' pre.length n) st st1∧Le E o (Bz all base (pre.length+n)) st1 p ef∧e = .panic [Cz p]∧st'=Fv all (st1.app ef):=
      fun p ef h1 h2 h3=>⟨0,o,p,ef,st,ho,AOR hpo,rfl,by grind,h2,h3⟩
     cases q with
      |inl p=>
       simp only[AXa,AXt]at h;rcases Gy hP (R:=Unit) (r:=()) (slot:=slot) (k:=fun _ _=>none) (kp:=fun p' e'=>some ()) (q:=.inl p) hpo rfl with⟨p',ef,_,h2,h3⟩|⟨_,_,_,_,h0,_⟩
       have h4:=h3 (PV×Eff) (fun _ _=>none) fun p e=>some (p,e);simp only[AXa,AXt]at h4;obtain⟨rfl,rfl⟩:=h4;exact .inr (stop p {} h2 h.1.symm h.2.symm);grind
      |inr sa=>
       obtain⟨s,args⟩:=sa;simp only at h;rcases Gy hP (q:=.inr (s,args)) hpo h with⟨p,ef,h1,h2,_⟩|⟨s',args',v,ef,h0,hg,h1,h2,_⟩
       simp only[AXa,AXt]at h1;exact .inr (stop p ef h2 h1.1.symm h1.2.symm);split at h1;rename_i hc;simp only[AXh,AZy,AXd]at hc;exact go _ (.inl ⟨by rw[hg];rfl,v,ef,ANN hc.1 hc.2,h2,rfl⟩) h1;grind
theorem AKo{all:List Oper}{fp:Nat→List Nat}{sl:Nat→Nat}:∀ (l l':List Nat) (st s1 s2:St),HS P E all fp sl l st s1→HS P E all fp sl l' s1 s2→HS P E all fp sl (l++l') st s2:=by
 intro l;induction l with
  |nil=>intro l' st s1 s2 h k;have h:st=s1:=h;grind
  |cons i l ih=>intro l' st s1 s2 ⟨o,s,h1,h2,h3⟩ k;exact⟨o,s,h1,h2,ih l' s s1 s2 h3 k⟩
theorem pn{all:List Oper}{fp:Nat→List Nat}{sl:Nat→Nat}{y:Oper}:∀ (l:List Nat) (st s1:St),(∀ j∈l,∀ x,all[j]? = some x→DV x.op=true∧apart? all x y=true)→HS P E all fp sl l st s1 →
  s1.heap=st.heap∧s1.frz=st.frz∧(∀ z∈y.op.operands,BY s1.tmps z=BY st.tmps z)∧∀ ef,Fv all (s1.app ef)=Fv all (st.app ef):=by
 intro l;induction l with
  |nil=>intro st s1 _ h;have h:st=s1:=h;grind
  |cons j l ih=>
   intro st s1 hl ⟨x,s,hx,h1,h2⟩;obtain⟨he,hap⟩:=hl j (by simp) x hx;obtain⟨k1,k2,k3,k4⟩:=ih s s1 (fun i hi=>hl i (by simp[hi])) h2;have key:∃ v,s=st.put x.dst v:=by
    rcases h1 with⟨_,v,e,_,b3,rfl⟩|⟨_,rfl⟩
    have:=Mh he _ _ _ _ _ b3;subst this;exact⟨v,rfl⟩;grind
   obtain⟨v,rfl⟩:=key;refine⟨k1.trans (Er ..).1,k2.trans (Er ..).2,fun z hz=>(k3 z hz).trans (Ca hap st v z hz),fun ef=>(k4 ef).trans ?_⟩;rw[St.Hg];exact eS all _ x v (AXk hx)
theorem Le.congr{y:Oper}{slot:Nat}{st s1:St}{p:PV}{ef:Eff}(h:Le E y slot s1 p ef)(h1:s1.heap=st.heap)(h2:s1.frz=st.frz)(h3:∀ z∈y.op.operands,BY s1.tmps z=BY st.tmps z):Le E y slot st p ef:=by obtain⟨hg,⟨x,ho,hx,he⟩|⟨f,args,ts,s,ho,hf,hs⟩⟩:=h;exact⟨hg,.inl ⟨x,ho,by rw[← h3 x (by rw[ho];simp[Op.operands])];exact hx,he⟩⟩;refine⟨hg,.inr ⟨f,args,ts,s,ho,hf,fun R k kp => ?_⟩⟩;have:args.toList.map (BY st.tmps)=args.toList.map (BY s1.tmps):=Ky fun x hx=>(h3 x (by rw[ho];simp[Op.operands,Call.operands];grind)).symm;grind
theorem tg(hE:∀ g,BV P g (E.spec g))(hL:EV E)(hP:Fs P E){ops:Array Oper}{fp:Nat→List Nat}{base:Nat}{Q:Exit→Act→World→Prop}{st':St}{p:Nat}{y:Oper}{pv:PV}{ef:Eff}(hy:ops.toList[p]? = some y)
  (hok:∀ i y,ops.toList[i]? = some y→(∀ e∈y.after.toList,Region.binds .any e=true→e.on<i) ∧
   ∀ j x,j<i→ops.toList[j]? = some x→reach ops.toList 8 y j=true∨indep ops.toList x y (fp j) (fp i) (Bz ops.toList base j) (Bz ops.toList base i)=true)
  (hpre:∀ j x,j<p→ops.toList[j]? = some x→reach ops.toList 8 y j=true∨DV x.op=true)
  (hpost:∀ j x,p<j→ops.toList[j]? = some x→reach ops.toList 8 x p=true∨(x.guard=none∧∃ z,x.op = .move z)) :
  ∀ (fuel:Nat) (listed:Array Bool) (st st1:St) (w:World) (F:Nat→Prop) (m:Mp) (a:Act),listed.size=ops.size→S4 ops.toList (fun i=>listed.getD i false)→(BN ops.size listed).length≤fuel→p∈BN ops.size listed→SI w F m st a →
   HS P E ops.toList fp (Bz ops.toList base) ((BN ops.size listed).filter fun j=>decide (j<p)) st st1→Le E y (Bz ops.toList base p) st1 pv ef→st'=Fv ops.toList (st1.app ef) →
   (∀ a' w' F' m',SI w' F' m' st' a'→Ext w F m st.heap st.frz w' F' m' st'.heap st'.frz→Q (.panic [Cz pv]) a' w')→wpAny P .any ops Q fuel listed a w:=by
 intro fuel;have hready:∀ (listed:Array Bool) (i:Nat),i∈Region.ready .any ops listed↔i∈BN ops.size listed∧((ops[i]?).map (·.after.all fun e => !Region.binds .any e||listed.getD e.on false)).getD false=true:=by intro listed i;unfold Region.ready BN;grind
 induction fuel with
  |zero=>grind
  |succ fuel ih=>
   intro listed st st1 w F m a hsz hcl hl hp hs hc hst hst' hq;have unl:∀ {j:Nat},j∈BN ops.size listed→listed.getD j false=false:=by intro j hj;unfold BN at hj;grind
   refine⟨fun hnil => ?_,fun i hi => ?_⟩;exfalso;cases hu:BN ops.size listed with
    |nil=>grind
    |cons i l=>
     have hmem:i∈BN ops.size listed:=by grind
     have hin:i<ops.size:=by unfold BN at hmem;grind
     have:i∈Region.ready .any ops listed:=by
      refine(hready listed i).2 ⟨hmem,?_⟩;rw[AYt hin];simp only[AY5,AX5];rw[← AaP,AXy];intro e he;cases hb:Region.binds .any e with
       |false=>rfl
       |true=>
        have hlt:=(hok i ops[i] (by simp)).1 e he hb;simp only[AXh,AZy];cases hg:listed.getD e.on false with
         |true=>rfl
         |false=>
          exfalso;have hon:e.on<ops.size:=by omega
          have:e.on∈BN ops.size listed:=by unfold BN;grind
          rw[hu]at this;have hpw:(BN ops.size listed).Pairwise (· < ·):=AZw _ AaJ
          rw[hu,AYP]at hpw;grind
     grind
   obtain⟨hmem,hrd⟩:=(hready listed i).1 hi;have hin:i<ops.size:=by grind
   obtain⟨l1,l2,hsplit⟩:=AZm hmem;have hgi:ops[i]? = some ops[i]:=AYt hin;have hgl:ops.toList[i]? = some ops[i]:=by simp
   rw[hgi]at hrd;simp only[AY5,AX5]at hrd;rw[← AaP,AXy]at hrd;have hall:∀ e∈(ops[i]).after.toList,Region.binds .any e=true→(fun i=>listed.getD i false) e.on=true:=by grind
   have noreach:∀ j,j∈BN ops.size listed→reach ops.toList 8 ops[i] j=true→False:=by intro j hj h;have h1:=Pq hcl 8 _ j hall h;grind
   have hnext:=PR hsz l1 l2 hsplit;have hlen:(BN ops.size (listed.setIfInBounds i true)).length≤fuel:=by grind
   have hcl2:S4 ops.toList (fun k=>(listed.setIfInBounds i true).getD k false):=by
    have hset:∀ k,(listed.setIfInBounds i true).getD k false=true↔(k=i∨listed.getD k false=true):=by
     intro k;have hil:i<listed.size:=by omega
     rw[AX6,AX6,Array.getElem?_setIfInBounds];by_cases hki:i=k;grind;grind
    intro k z hz hk e he hb;simp only[hset]at hk ⊢;right;rcases hk with rfl|hk;grind;exact hcl k z hz hk e he hb
   have before:∀ j∈(BN ops.size listed).filter (fun j=>decide (j<p)),j∈BN ops.size listed∧j<p:=by simp
   rcases Nat.lt_trichotomy i p with hip|hip|hip;-- one ahead of it
   have hub:(BN ops.size listed).filter (fun j=>decide (j<p))=l1.filter (fun j=>decide (j<p))++i::l2.filter (fun j=>decide (j<p)):=by grind
   rw[hub]at hc;obtain⟨z,s1,hz,h1,h2⟩:=My hL hgl _ _ st st1 (fun j hj=>by have hj1:j∈l1:=(AY6.1 hj).1;have hji:=LV hsplit j hj1;grind) hc
   rw[hgl]at hz;cases hz;have hp2:p∈BN ops.size (listed.setIfInBounds i true):=by grind
   exact ir hE hgi h1 hs fun a' w' F' m' hs2 hx=>ih _ s1 st1 w' F' m' a' (by grind) hcl2 hlen hp2 hs2 (by grind) hst hst' fun a' w2 F2 m2 q1 q2=>hq a' w2 F2 m2 q1 (hx.trans q2);-- it
   subst hip;rw[hgl]at hy;cases hy;obtain⟨k1,k2,k3,k4⟩:=pn (y:=ops[i]) _ st st1 (fun j hj x hx=>by obtain⟨hj1,hj2⟩:=before j hj;refine⟨?_,?_⟩;grind;rcases(hok i _ hgl).2 j x hj2 hx with h|h;grind;exact(MM h).1) hc
   have hst2:=hst.congr k1 k2 k3;unfold wpOp;rw[hgi];simp only;rw[AXp (by simp[Region.wanted,hst2.1])];left;refine px hP hst2 hs fun w' F' m' hg => ?_;have hj:=AAN ops.toList (st.app ef);rw[k4]at hst';subst hst';refine hq a w' F' m' ((hs.go hg).Fv _) ?_;rw[hj.1,hj.2];exact hg.1;-- a move that stands behind it
   obtain⟨hg0,z,hzo⟩:ops[i].guard=none∧∃ z,ops[i].op = .move z:=by rcases hpost i _ hip hgl with h|h;grind;omega
   have hev:∃ v,∀ (R:Type) (k:AV→Eff→Option R),evalOp P E R ops[i].op ops[i].type (BY st1.tmps) st1.heap st1.frz (Bz ops.toList base i) k=k v {}:=by rw[hzo];simp only[evalOp];split;exact⟨_,fun _ _=>rfl⟩;exact⟨_,fun _ _=>rfl⟩
   obtain⟨v,hv⟩:=hev;have hs1:C_ P E ops.toList ops[i] (fp i) (Bz ops.toList base i) st1 (st1.put ops[i].dst v):=by refine .inl ⟨by rw[hg0];rfl,v,{},.inr ⟨.inr ⟨?_,?_,?_⟩,?_⟩,hv,rfl⟩;rw[hzo];rfl;rw[hzo];rfl;rw[hzo];rfl;rfl
   have hc2:=AKo _ [i] st st1 (st1.put ops[i].dst v) hc ⟨ops[i],_,hgl,hs1,rfl⟩;obtain⟨z',s1,hz',h1,h2⟩:=My hL hgl _ [] st _ (fun j hj=>by grind) hc2
   rw[hgl]at hz';cases hz';rw[AYf]at h2;have hub:(BN ops.size (listed.setIfInBounds i true)).filter (fun j=>decide (j<p))=(BN ops.size listed).filter (fun j=>decide (j<p)):=by grind
   have hp2:p∈BN ops.size (listed.setIfInBounds i true):=by grind
   have hap:apart? ops.toList ops[i] y=true:=by rcases(hok i _ hgl).2 p y hip hy with h|h;grind;exact Iw (MM h).1
   have hst2:Le E y (Bz ops.toList base p) (st1.put ops[i].dst v) pv ef:=hst.congr (Er ..).1.symm (Er ..).2.symm fun z hz=>(Ca hap st1 v z hz).symm;have hj:st'=Fv ops.toList ((st1.put ops[i].dst v).app ef):=by rw[hst',St.Hg,eS _ _ _ _ (AXk hgl)]
   exact ir hE hgi h1 hs fun a' w' F' m' hs2 hx=>ih _ s1 _ w' F' m' a' (by grind) hcl2 hlen hp2 hs2 (by grind) hst2 hj fun a' w2 F2 m2 q1 q2=>hq a' w2 F2 m2 q1 (hx.trans q2)
theorem rE{all:List Oper}{i:Nat}{o:Oper}(h:AEH E all i o=true)(hp:TZ E [o]=true):(∀ j x,j<i→all[j]? = some x→reach all 8 o j=true∨DV x.op=true) ∧
  ∀ j x,i<j→all[j]? = some x→reach all 8 x i=true∨(x.guard=none∧∃ z,x.op = .move z):=by
 unfold AEH at h;rw[hp]at h;simp only[AXy,AYS]at h;refine⟨fun j x hj hx => ?_,fun j x hj hx => ?_⟩;grind;have:=h j (AYJ.1 hx).1;rw[hx]at this;have h1:¬ j<i:=by omega
 have h2:¬ j=i:=by omega
 simp only[h1,h2,AXu,AZy,AYe,AXd,Option.isNone_iff_eq_none]at this;grind
theorem aU(hE:∀ g,BV P g (E.spec g))(hL:EV E)(hP:Fs P E){R:Type}{r:R}{id:Nat}{fp:List (List Nat)}{dr:Bool}{ops:Array Oper}{st:St}{k:Exit→St→Option R}(h:IP P E R fp dr ops.toList st k=some r):
  ∃ e st',k e st'=some r∧(∀ (R':Type) (k':Exit→St→Option R'),IP P E R' fp dr ops.toList st k'=k' e st') ∧
   ∀ (w:World) (F:Nat→Prop) (m:Mp) (a:Act) (Q:Exit→Act→World→Prop),SI w F m st a→(∀ a' w' F' m',SI w' F' m' st' a'→Ext w F m st.heap st.frz w' F' m' st'.heap st'.frz→Q e a' w')→(Code.region id ops dr).wp P Q a w:=by
 unfold IP at h;rw[Nx]at h;split at h
 ·rename_i hok;obtain⟨e,st',h1,h2⟩:=qL hE hP _ _ _ _ _ h;refine⟨e,st',h1,fun R' k'=>by unfold IP;rw[Nx,hok];grind,fun w F m a Q hs hq => ?_⟩;have h3:=h2 (Exit×St) fun e s=>some (e,s);cases dr with
   |false=>obtain⟨hs2,he2⟩:=hs.pad (Cq ops.toList);have:=qK hE hP ops.toList [] _ _ _ w F m a (by simp) h3 hs2 fun a' w' F' m' q1 q2=>hq a' w' F' m' q1 (he2.trans q2);rw[AXs,AX0,← AZW]at this;exact wp_region this
   |true=>
    simp only[AXh,AZy,AXd]at hok;obtain⟨hm,hok,hpan⟩:=hok;obtain⟨hs1,he1⟩:=hs.drew;obtain⟨hs2,he2⟩:=hs1.pad (Cq ops.toList);have hnn:ops.toList=[]++ops.toList:=by simp
    refine wp_region_any hm ?_;have hu:BN ops.size (Array.replicate ops.size false)=List.range' 0 ops.toList.length:=by
     unfold BN;rw[AX0,← AZW];rw[AZi];intro i hi;have:i<ops.size:=by grind
     simp[AX6,this]
    have hcl:S4 ops.toList (fun i=>(Array.replicate ops.size false).getD i false):=fun k z _ hk=>by exfalso;have hk:(Array.replicate ops.size false).getD k false=true:=hk;rw[AX6,Array.getElem?_replicate]at hk;grind
    have hpairs:=fun i y hy=>Px (all:=ops.toList) (fp:=fp) (base:=st.heap.length) ops.toList [] fp _ [] hnn rfl (by simp[Bz,Cq]) (fun j x hj=>by grind) hok i y (AZ1 _) hy;rcases aW hE hP (all:=ops.toList) (fp:=fp) (base:=st.heap.length) ops.toList [] fp st.heap.length _ hnn rfl (by simp[Bz,Cq]) h3 with⟨rfl,hc⟩|⟨n,o,p,ef,st1,g1,g2,g3,g4,rfl,g6⟩
    exact fT (ops:=ops) hE hL (fp:=fun i=>fp.getD i []) (base:=st.heap.length) (st':=st') hpairs ops.size _ _ w.drew F m a (by simp) hcl (by grind) hs2 (by grind) fun a' w' F' m' q1 q2=>hq a' w' F' m' q1 (he1.trans (he2.trans q2))
    ·simp only[AXs,AYQ]at g1 g3 g4;have hn:n<ops.toList.length:=(AYJ.1 g1).1;have hpn:AEH E ops.toList n o=true:=by grind
     obtain⟨o1,o2⟩:=rE hpn g2;refine tg hE hL hP (ops:=ops) (fp:=fun i=>fp.getD i []) (base:=st.heap.length) g1 hpairs o1 o2 ops.size _ _ st1 w.drew F m a (by simp) hcl (by grind) ?_ hs2 ?_ g4 g6 fun a' w' F' m' q1 q2=>hq a' w' F' m' q1 (he1.trans (he2.trans q2));grind
     ·have:(List.range' 0 ops.toList.length).filter (fun j=>decide (j<n))=List.range' 0 n:=by
       have h1:List.range' 0 ops.toList.length=List.range' 0 n++List.range' n (ops.toList.length-n):=by have h2:=List.range'_append_1 (s:=0) (m:=n) (n:=ops.toList.length-n);grind
       rw[h1,AZl,AZi.2,List.filter_eq_nil_iff.2,AYf];all_goals grind
      grind
 grind
end
end Go.Pev
end
