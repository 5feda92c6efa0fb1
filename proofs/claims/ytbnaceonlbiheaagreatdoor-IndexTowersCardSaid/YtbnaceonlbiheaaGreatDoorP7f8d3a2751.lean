/- A part of the proofs of this seat: PevOps7 PevOps8 PevOps9 PevOps10 PevKeep PevPrs PevRows2 PevOps12 PevMore PevKeys PevKeys2 PevIface PevOps11 PevCode PevLocal PevDraw PevDraw2 PevDec PevDec2 PevFlow PevPan. -/
import Derived.Test.YtbnaceonlbiheaaGreatDoorPc68112f7c6
import Derived.IntWalk
import Derived.Laws.StructEq
import Derived.Laws.BytesArg
set_option linter.unusedVariables false
set_option linter.unusedSimpArgs false
set_option linter.unusedSectionVars false
set_option maxRecDepth 100000
section
namespace Go.Pev
open Go.RowKit
section
variable {P:Program} {E:Env}
theorem Tt{T:TypeId}{size:Nat}{ag:Bool}(h:elemAt P T=some (size,ag)):∃ n e i,P.underlying T=some (.array n e)∧P.info? e=some i∧i.size=size∧EZ P e=some ag:=by unfold elemAt at h;grind
theorem AAq{x:Operand}{s:ByteArray}(h:Yq x=some s):x = .const (.string s):=by unfold Yq at h;grind
theorem ARp{k:IntKind}:∀ {cs:List AV} {ns:List Int} {i:Nat} {d:Int},Ot k cs=some ns→ns[i]? = some d→cs[i]? = some (.data (.int k) d):=by
 intro cs;induction cs with
  |nil=>intro ns i d h hi;simp only[Ot,Apq]at h;grind
  |cons c cs ih=>
   intro ns i d h hi;cases c with
    |data t x=>
     cases t with
      |int j=>simp only[Ot]at h;grind
      |_=>simp[Ot]at h
    |_=>simp[Ot]at h
theorem AMB(T:TypeId)(x y:Operand):Claim P E (.index T x y):=by
 intro R ty ρ H fz slot k r h;simp only[evalOp,LD]at h;split at h
 ·rename_i s hcs;split at h
  ·rename_i j i hu hy;split at h
   ·rename_i b hb;refine⟨_,_,h,fun R' k'=>by simp only[evalOp,LD,hcs,hu,hy,hb],fun w F m a o next Q hop hty hi hr hn => ?_⟩;have e2:=A1 (hy▸hr y);have hx:=AAq hcs;subst hx;rw[idx_eq]at hb;unfold YI at hb;split at hb;cases hb;rename_i hi0;have hi1:(0:Int)≤i:=Int.not_lt.1 hi0;have he:a.eval (.const (.string s)) = .string s:=rfl;have hrun:(execOp a.eval o).run P w = .ok (.value (.int .u8 b)) w:=by
     have hb':s[i.toNat]? = some (UInt8.ofNat b.toNat)∧((UInt8.ofNat b.toNat).toNat:Int)=b:=by
      unfold bytesOf at hb;rw[Arj,Ap2]at hb;obtain⟨c,h1,rfl⟩:=hb;have e:UInt8.ofNat (c.toNat:Int).toNat=c:=by simp
      rw[e];refine⟨?_,rfl⟩;rw[Aqo]at h1;have hlt:i.toNat<s.data.size:=by grind
      rw[Aq9 hlt]at h1;simp only[Apq]at h1;have hlt2:i.toNat<s.size:=hlt;rw[getElem?_pos s i.toNat hlt2];exact Aqx some h1
     have h2:=hb'.2;generalize UInt8.ofNat b.toNat=c at hb' h2;subst h2;simp[execOp,hop,e2,he,Instr.index,asIntOf,run_underlying hu,hi1,hb'.1]
    unfold Oper.wp;rw[hrun];have:=hn (.int .u8 b) w F m (Af.refl hi) (Ar _ _);exact this
   grind
  grind
 rename_i hcs;split at h;rename_i hE;split at h;rename_i n e j i he hu hy;split at h;rename_i cs kk hc hag hkk;split at h;rename_i ns hns;split at h;rename_i hd;split at h;cases h;rename_i d hid;refine⟨_,_,h,fun R' k'=>by simp only[evalOp,LD,hcs,hE,he,hu,hy,hc,hag,hkk,hns,hd,hid],AS fun w F m ρc o hop hty hi hr => ?_⟩;obtain⟨n',e',i',hu',hi0,hsz,ha⟩:=Tt he;rw[hu]at hu';cases hu';simp only[Aps]at hd;obtain⟨a1,a2,a3⟩:=Aa hid;obtain⟨vs,e1⟩:=KJ hag (hr x);have e2:=A1 (hy▸hr y);have hrc:=cells?_ok hc (hr x);have h1:=cells?_one hc (hr x);rw[e1]at hrc h1;have hl:loadCells false i'.size (cs.drop (i.toNat*i'.size))=some (.data (.int kk) d):=by rw[hsz,AsG];unfold loadCells;simp only;rw[List.head?_drop];exact ARp hns a3
 obtain⟨u,q1,q2⟩:=XK (P:=P) hi0 ha hl hrc h1;refine⟨u,?_,q2⟩;simp only[Value.cells]at q1;have hd1:0≤i:=a1;have hd2:i<(n:Int):=by grind
 simp[execOp,hop,e1,e2,Instr.index,asIntOf,run_underlying hu,hd1,hd2,run_sizeOf hi0,q1];grind;grind;grind;grind;rename_i hE;split at h;rename_i size ag n e j i he hu hy;split at h;rename_i hd;split at h;rename_i cs hc hag;split at h;rename_i v hl;refine⟨_,_,h,fun R' k'=>by simp only[evalOp,LD,hcs,hE,he,hu,hy,hd,hc,hag,hl],AS fun w F m ρc o hop hty hi hr => ?_⟩;obtain⟨n',e',i',hu',hi0,rfl,ha⟩:=Tt he;rw[hu]at hu';cases hu';simp only[Aps]at hd;obtain⟨vs,e1⟩:=KJ hag (hr x);have e2:=A1 (hy▸hr y);have hrc:=cells?_ok hc (hr x);have h1:=cells?_one hc (hr x);rw[e1]at hrc h1;obtain⟨u,q1,q2⟩:=XK (P:=P) hi0 ha hl hrc h1;refine⟨u,?_,q2⟩;simp only[Value.cells]at q1;have hd1:0≤i:=hd.1;have hd2:i<(n:Int):=hd.2;simp[execOp,hop,e1,e2,Instr.index,asIntOf,run_underlying hu,hd1,hd2,run_sizeOf hi0,q1];grind;grind;grind;grind
theorem DN{w:World}{T e:TypeId}{i:TypeInfo}(hu:P.underlying T=some (.slice e))(hi:P.info? e=some i)(ad:Addr)(len cap:Nat)(k:IntKind){n:Int}(h0:0≤n)(h1:n<len):
  (Instr.indexAt T (.slice (some ad) len cap) (.int k n)).run P w = .ok (.pointer (some (ad.add (n.toNat*i.size)))) w:=by simp[Instr.indexAt,asIntOf,run_underlying hu,h0,h1,run_sizeOf hi]
theorem Bj{w w':World}{ρc:Operand→Value}{o:Oper}{T:TypeId}{x y:Operand}{v n u:Value}(hop:o.op = .indexAddr T x y)(e1:ρc x=v)(e2:ρc y=n)
  (hrun:(Instr.indexAt T v n).run P w = .ok u w'):(execOp ρc o).run P w = .ok (.value u) w':=by simp[execOp,hop,e1,e2,hrun]
theorem VR(T:TypeId)(x y:Operand):Claim P E (.indexAddr T x y):=by
 intro R ty ρ H fz slot k r h;simp only[evalOp,BY]at h;split at h;rename_i e j i hu hy;split at h;rename_i t xs hx;split at h;rename_i hsz;split at h;rename_i d hd;refine⟨_,_,h,fun R' k'=>by simp only[evalOp,BY,hu,hy,hx,hsz,hd],AS fun w F m ρc o hop hty hi hr => ?_⟩;simp only[Aps]at hsz;obtain⟨i',hi0,hsz'⟩:=A6 hsz;obtain⟨a1,a2,a3⟩:=Aa hd;have hrx:=hr x;rw[hx]at hrx;have hrx:Dat w F (.slice t) xs [ρc x]:=hrx;obtain⟨a,cap,e1,e2,e3⟩:=hrx;simp only[AqF,AsB]at e1;have hne:xs≠[]:=by grind
 obtain⟨ad,row,rfl,q2,q3,q4⟩:=e3 hne;have hk:=fun(x:t.den) cs (h:Dat w F t x cs)=>Dat.length t h;have hg:=Lz hk q3 a3;refine⟨_,Bj hop e1 (A1 (hy▸hr y)) (DN hu hi0 ad _ cap j a1 a2),?_⟩;unfold Rep;refine⟨_,(row.drop (i.toNat*t.size)).take t.size,rfl,fun _=>by rw[H5];exact q2,Ih t hg,Dat.HS t hg,fun k u hu' => ?_⟩;rw[add_add,hsz'];grind;grind;grind;rename_i id hx;split at h;rename_i T' t xs ho;split at h;rename_i hsz;split at h;rename_i d hd;refine⟨_,_,h,fun R' k'=>by simp only[evalOp,BY,hu,hy,hx,ho,hsz,hd],AS fun w F m ρc o hop hty hi hr => ?_⟩;simp only[Aps]at hsz;obtain⟨i',hi0,hsz'⟩:=A6 hsz;obtain⟨a1,a2,a3⟩:=Aa hd;have hrx:=hr x;rw[hx]at hrx;unfold Rep at hrx;rw[ho]at hrx;obtain⟨hpos,hob⟩:=hi.obj id _ ho;cases hm:m id with
  |none=>grind
  |some p=>obtain⟨b,cap⟩:=p;rw[hm]at hrx;simp only[A4]at hrx;refine⟨_,Bj hop hrx (A1 (hy▸hr y)) (DN hu hi0 ⟨b,0,none⟩ _ cap j a1 a2),?_⟩;unfold Rep;rw[ho];exact⟨by unfold AF;omega,b,cap,hm,by rw[CB,hsz'];simp[AF]⟩
 grind;grind;rename_i T' tgt is ho;split at h;rename_i hsz;split at h;rename_i d hd;refine⟨_,_,h,fun R' k'=>by simp only[evalOp,BY,hu,hy,hx,ho,hsz,hd],AS fun w F m ρc o hop hty hi hr => ?_⟩;simp only[Aps]at hsz;obtain⟨i',hi0,hsz'⟩:=A6 hsz;obtain⟨a1,a2,a3⟩:=Aa hd;have hrx:=hr x;rw[hx]at hrx;unfold Rep at hrx;rw[ho]at hrx;have hob:=hi.obj id _ ho;cases hm:m id with
  |none=>rw[hm]at hob;have hob:is=[]:=hob;grind
  |some p=>obtain⟨b,cap⟩:=p;rw[hm]at hrx;simp only[A4]at hrx;refine⟨_,Bj hop hrx (A1 (hy▸hr y)) (DN hu hi0 ⟨b,0,none⟩ _ cap j a1 a2),?_⟩;unfold Rep;rw[ho];exact⟨by unfold AF;omega,b,cap,hm,by rw[CB,hsz'];simp[AF]⟩
 grind;grind;rename_i T' e' t xs ver out ho;split at h;rename_i hsz;split at h;rename_i d hd;refine⟨_,_,h,fun R' k'=>by simp only[evalOp,BY,hu,hy,hx,ho,hsz,hd],AS fun w F m ρc o hop hty hi hr => ?_⟩;simp only[Aps]at hsz;obtain⟨i',hi0,hsz'⟩:=A6 hsz;obtain⟨a1,a2,a3⟩:=Aa hd;have hrx:=hr x;rw[hx]at hrx;unfold Rep at hrx;rw[ho]at hrx;obtain⟨hpos,hob⟩:=hi.obj id _ ho;cases hm:m id with
  |none=>grind
  |some p=>obtain⟨b,cap⟩:=p;rw[hm]at hrx;simp only[A4]at hrx;refine⟨_,Bj hop hrx (A1 (hy▸hr y)) (DN hu hi0 ⟨b,0,none⟩ _ cap j a1 a2),?_⟩;unfold Rep;rw[ho];exact⟨by unfold AF;omega,b,cap,hm,by rw[CB,hsz'];simp[AF]⟩
 grind;grind;grind;rename_i id off n hx;split at h;rename_i T' t xs ho;split at h;rename_i hsz;split at h;rename_i d hd;refine⟨_,_,h,fun R' k'=>by simp only[evalOp,BY,hu,hy,hx,ho,hsz,hd],AS fun w F m ρc o hop hty hi hr => ?_⟩;simp only[Aps]at hsz;obtain⟨i',hi0,hsz'⟩:=A6 hsz;obtain⟨a1,a2,a3⟩:=Aa hd;have hrx:=hr x;rw[hx]at hrx;unfold Rep at hrx;rw[ho]at hrx;obtain⟨hle,hrx⟩:=hrx;have hcl:(Eo off n xs).length=n:=by unfold Eo;grind
 rw[hcl]at a2;obtain⟨hpos,hob⟩:=hi.obj id _ ho;cases hm:m id with
  |none=>grind
  |some p=>obtain⟨b,cap⟩:=p;rw[hm]at hrx hob;obtain⟨vs,row,e1,e2,_⟩:=hob;obtain⟨a,e3,e4⟩:=hrx;have e4:=e4 (by omega);subst e4;refine⟨_,Bj hop e3 (A1 (hy▸hr y)) (DN hu hi0 ⟨b,off*t.size,none⟩ _ _ j a1 a2),?_⟩;unfold Rep;rw[ho];exact⟨by unfold AF;omega,b,cap,hm,by rw[CB,hsz'];simp[AF,Aq7]⟩
 grind;grind;grind;grind;rename_i n e j i hu hy;cases hat:Y4 H n (ρ x)with
  |some q=>
   obtain⟨id,s,len⟩:=q;rw[hat]at h;simp only at h;split at h;rename_i hs;split at h;rename_i hc;refine⟨_,_,h,fun R' k'=>by simp only[evalOp,BY,hu,hy,hat,hs,hc],AS fun w F m ρc o hop hty hi hr => ?_⟩;simp only[Aps]at hs;obtain⟨i',hi0,hsz'⟩:=A6 hs;simp only[Apt,Ao,Ab,Aps]at hc;obtain⟨hd1,hd2,hd3⟩:=hc;have hd1:(0:Int)≤i:=hd1;have hd2:i<(n:Int):=hd2;unfold Y4 at hat;split at hat;rename_i id' n' hx;split at hat;rename_i T' t xs ho;split at hat;cases hat;have hrx:=hr x;rw[hx]at hrx;unfold Rep FZ at hrx;rw[ho]at hrx;obtain⟨_,b,e1,e2⟩:=hrx;have hrun:(Instr.indexAt T (.pointer (some ⟨b,0,none⟩)) (.int j i)).run P w = .ok (.pointer (some ((⟨b,0,none⟩:Addr).add (i.toNat*i'.size)))) w:=by simp[Instr.indexAt,asIntOf,run_underlying hu,Instr.sureAddr,hd1,hd2,run_sizeOf hi0]
   refine⟨_,Bj hop e2 (A1 (hy▸hr y)) hrun,?_⟩;unfold Rep;rw[ho];refine⟨?_,b,_,e1,by rw[CB,hsz'];simp[AF]⟩;exact(Int.toNat_lt (n:=List.length (α:=t.den) xs) hd1).2 hd3;grind;grind;grind;grind;grind
  |none=>rw[hat]at h;simp only at h;cases hg:gAt (ρ x)with
  |some q=>
   obtain⟨kk,ns⟩:=q;rw[hg]at h;simp only at h;split at h;rename_i hs;split at h;rename_i hc;refine⟨_,_,h,fun R' k'=>by simp only[evalOp,BY,hu,hy,hat,hg,hs,hc],AS fun w F m ρc o hop hty hi hr => ?_⟩;simp only[Aps]at hs;obtain⟨i',hi0,hsz'⟩:=A6 hs;simp only[Apt,Ao,Ab,Aps]at hc;obtain⟨hd1,hd2,hd3⟩:=hc;have hd1:(0:Int)≤i:=hd1;have hd2:i<(n:Int):=hd2;unfold gAt at hg;split at hg;rename_i g hx;have hrx:=hr x;rw[hx]at hrx;unfold Rep at hrx;simp only[Ap2]at hg;obtain⟨p,hp,hp2⟩:=hg;have hpm:=List.mem_of_find?_eq_some hp;have hpg:p.1=g:=by grind
   obtain⟨g1,g2⟩:=hi.glo p hpm;rw[hp2]at g2;have hrun:(Instr.indexAt T (.pointer (some ⟨g,0,none⟩)) (.int j i)).run P w = .ok (.pointer (some ((⟨g,0,none⟩:Addr).add (i.toNat*i'.size)))) w:=by simp[Instr.indexAt,asIntOf,run_underlying hu,Instr.sureAddr,hd1,hd2,run_sizeOf hi0]
   refine⟨_,Bj hop hrx (A1 (hy▸hr y)) hrun,?_⟩;have hlt:i.toNat<ns.length:=(Int.toNat_lt hd1).2 hd3;unfold Rep;refine⟨_,[.int kk (AJ ns (AF i) 0)],rfl,fun _=>by rw[H5,← hpg];exact g1,?_,fun u hu => ?_,fun jj u hu => ?_⟩;unfold AT;exact⟨_,_,rfl,by unfold Rep Bn;exact rfl,by unfold AT;rfl⟩;rw[AqR]at hu;subst hu;rfl;cases jj with
    |zero=>simp only[Aqd,Apq]at hu;subst hu;rw[CB,CB,hsz',AsG,Aqg,Arb,← hpg];exact g2 i.toNat _ (by rw[Apz hlt];simp[AJ,AF,hlt])
    |succ jj=>grind
   grind;grind;grind
  |none=>
   rw[hg]at h;simp only at h;split at h;rename_i s hs hd;obtain⟨i',hi0,rfl⟩:=A6 hs;have hd':=hd;simp only[Aps]at hd';have hd1:0≤i:=hd'.1;have hd2:i<(n:Int):=hd'.2;have hrun:∀ (w:World) (ad:Addr),(Instr.indexAt T (.pointer (some ad)) (.int j i)).run P w = .ok (.pointer (some (ad.add (i.toNat*i'.size)))) w:=by intro w ad;simp[Instr.indexAt,asIntOf,run_underlying hu,Instr.sureAddr,hd1,hd2,run_sizeOf hi0]
   split at h;rename_i id o' hx;split at h;rename_i hl;obtain⟨cs,ho⟩:=Kx hl;refine⟨_,_,h,fun R' k'=>by have hat':=hat;have hg':=hg;rw[hx]at hat' hg';simp only[evalOp,BY,hu,hy,hat',hg',hs,hd,hx,hl],AS fun w F m ρc o hop hty hi hr => ?_⟩
   obtain⟨b,c,vs,T,e1,e2,_⟩:=RC hi ho (hx▸hr x);refine⟨_,Bj hop e2 (A1 (hy▸hr y)) (hrun w _),?_⟩;unfold Rep;rw[ho];exact⟨b,c,e1,by rw[CB]⟩;grind;rename_i id jj s hx;split at h;rename_i hl;obtain⟨T',t,xs,ho⟩:=D9 hl;refine⟨_,_,h,fun R' k'=>by have hat':=hat;have hg':=hg;rw[hx]at hat' hg';simp only[evalOp,BY,hu,hy,hat',hg',hs,hd,hx,hl],AS fun w F m ρc o hop hty hi hr => ?_⟩
   obtain⟨b,c,vs,row,e1,e2,e3,_⟩:=LP hi ho (hx▸hr x);refine⟨_,Bj hop e2 (A1 (hy▸hr y)) (hrun w _),?_⟩;unfold Rep;rw[ho];exact⟨e3,b,c,e1,by rw[CB,Nat.add_assoc]⟩;grind;rename_i cs hx;refine⟨_,_,h,fun R' k'=>by have hat':=hat;have hg':=hg;rw[hx]at hat' hg';simp only[evalOp,BY,hu,hy,hat',hg',hs,hd,hx],AS fun w F m ρc o hop hty hi hr => ?_⟩
   have hrx:=hr x;rw[hx]at hrx;unfold Rep at hrx;obtain⟨ad,us,e1,e2,e3,e4,e5⟩:=hrx;refine⟨_,Bj hop e1 (A1 (hy▸hr y)) (hrun w _),?_⟩;unfold Rep;exact⟨_,us.drop (i.toNat*i'.size),rfl,fun hne=>by rw[H5];grind,Ez e3 _,fun u hu=>e4 u (ArT hu),fun j u hu=>by rw[add_add];grind⟩
   grind;grind
 grind
end
end Go.Pev
end
section
namespace Go.Pev
open Go.RowKit
section
variable {P:Program} {E:Env}
theorem AcJ{α:Type}{a:Array α}{x:α}(h:a.toList=[x]):a = #[x]:=by grind
theorem AmJ{α:Type}{a:Array α}{x y:α}(h:a.toList=[x,y]):a = #[x,y]:=by grind
theorem Ya{w:World}{F:Nat→Prop}{a b:Ty}:∀ {es:List (a.den×b.den)} {ms:List MapEntry},Iy w F a b es ms→ms.length=es.length:=by
 intro es;induction es with
  |nil=>rintro ms rfl;rfl
  |cons e es ih=>rintro ms ⟨me,ms',rfl,_,h⟩;grind
theorem FO{w w':World}{ρc:Operand→Value}{o:Oper}{T:TypeId}{x:Operand}{v u:Value}(hop:o.op = .call { callee:=.builtin .len,args:=#[x],argTypes:=#[T] })(e1:ρc x=v)
  (hrun:(Builtin.len_ #[T] o.type #[v]).run P w = .ok u w'):(execOp ρc o).run P w = .ok (.value u) w':=by simp[execOp,hop,resolve,invoke,builtin,e1,hrun]
theorem Bg{w:World}{T e ty:TypeId}(hu:P.underlying T=some (.slice e))(a:Option Addr)(n c:Nat):(Builtin.len_ #[T] ty #[.slice a n c]).run P w = .ok (.int .i64 n) w:=by simp[Builtin.len_,run_underlying hu,goInt]
theorem Abu(args:Array Operand)(ts:Array TypeId):Claim P E (.call { callee:=.builtin .len,args:=args,argTypes:=ts }):=by
 intro R ty ρ H fz slot k r h;simp only[evalOp,MS]at h;split at h;rename_i x T ha hts;obtain rfl:=AcJ ha;obtain rfl:=AcJ hts;split at h;rename_i e hu;split at h;rename_i t xs hx;refine⟨_,_,h,fun R' k'=>by simp only[evalOp,MS,hu,hx],AS fun w F m ρc o hop hty hi hr => ?_⟩;have hrx:=hr x;rw[hx]at hrx;have hrx:Dat w F (.slice t) xs [ρc x]:=hrx;obtain⟨a,cap,e1,_⟩:=hrx;simp only[AqF,AsB]at e1;exact⟨_,FO hop e1 (Bg hu _ _ _),Ar _ _⟩;rename_i hx;refine⟨_,_,h,fun R' k'=>by simp only[evalOp,MS,hu,hx],AS fun w F m ρc o hop hty hi hr => ?_⟩;have hrx:=hr x;rw[hx]at hrx;unfold Rep at hrx;exact⟨_,FO hop hrx (Bg hu _ _ _),Ar _ _⟩;rename_i id hx;split at h;rename_i T' t xs ho;refine⟨_,_,h,fun R' k'=>by simp only[evalOp,MS,hu,hx,ho],AS fun w F m ρc o hop hty hi hr => ?_⟩;have hrx:=hr x;rw[hx]at hrx;unfold Rep at hrx;rw[ho]at hrx;obtain⟨_,hob⟩:=hi.obj id _ ho;cases hm:m id with
  |none=>rw[hm]at hrx hob;obtain⟨a,e1⟩:=hrx;simp only at hob;subst hob;exact⟨_,FO hop e1 (Bg hu _ _ _),Ar _ _⟩
  |some p=>rw[hm]at hrx;exact⟨_,FO hop hrx (Bg hu _ _ _),Ar _ _⟩
 rename_i T' tgt is ho;refine⟨_,_,h,fun R' k'=>by simp only[evalOp,MS,hu,hx,ho],AS fun w F m ρc o hop hty hi hr => ?_⟩;have hrx:=hr x;rw[hx]at hrx;unfold Rep at hrx;rw[ho]at hrx;have hob:=hi.obj id _ ho;cases hm:m id with
  |none=>rw[hm]at hrx hob;obtain⟨a,e1⟩:=hrx;have hob:is=[]:=hob;subst hob;exact⟨_,FO hop e1 (Bg hu _ _ _),Ar _ _⟩
  |some p=>rw[hm]at hrx;exact⟨_,FO hop hrx (Bg hu _ _ _),Ar _ _⟩
 grind;rename_i id off n hx;split at h;rename_i hl;obtain⟨T',t,xs,ho⟩:=D9 hl;refine⟨_,_,h,fun R' k'=>by simp only[evalOp,MS,hu,hx,hl],AS fun w F m ρc o hop hty hi hr => ?_⟩;have hrx:=hr x;rw[hx]at hrx;unfold Rep at hrx;rw[ho]at hrx;obtain⟨_,hrx⟩:=hrx;cases hm:m id with
  |none=>rw[hm]at hrx;obtain⟨a,e1⟩:=hrx;exact⟨_,FO hop e1 (Bg hu _ _ _),Ar _ _⟩
  |some p=>rw[hm]at hrx;obtain⟨a,e1,_⟩:=hrx;exact⟨_,FO hop e1 (Bg hu _ _ _),Ar _ _⟩
 grind;grind;rename_i kt vt hu;split at h;rename_i id hx;split at h;rename_i a b es ho;refine⟨_,_,h,fun R' k'=>by simp only[evalOp,MS,hu,hx,ho],AS fun w F m ρc o hop hty hi hr => ?_⟩;have hrx:=hr x;rw[hx]at hrx;unfold Rep at hrx;rw[ho]at hrx;obtain⟨bb,c,e1,e2⟩:=hrx;obtain⟨b',c',ms,clock,e3,e4,e5,_⟩:=hi.obj id _ ho;rw[e1]at e3;cases e3;refine⟨_,FO hop e2 (u:=.int .i64 (ms.size:Int)) ?_,?_⟩;simp[Builtin.len_,run_underlying hu,goInt,getObj,Sem.run,e4];have:=Ya e5;rw[AqG]at this;rw[this];exact Ar _ _;grind;grind;grind;grind
theorem Dx{w:World}{F:Nat→Prop}{m:Mp}{H:List Ob}{fz:List Bool}(hi:HI w F m H fz){t:Ty}{v:AV}{ys:List t.den}{fr:List Nat}(h:E0 H (.slice t) v=some (ys,fr)){u:Value}(hr:Rep w F m H v u):
  ∃ a cap,u = .slice a ys.length cap∧ys.length≤cap∧(ys≠[]→a.isSome=true)∧∃ news,rows (Dat w F t) ys news∧∀ ad,a=some ad→∀ j u,news[j]? = some u→w.cell? (ad.add j)=some u:=by
 change Dy H (.slice t) v=some (ys,fr)at h;unfold Dy at h;split at h;rename_i t' d;simp only[Ap2,Ap9]at h;obtain⟨y,h1,rfl,rfl⟩:=h;obtain⟨e,h2⟩:=C4 h1;subst e;simp only at h2;subst h2;have hrx:Dat w F (.slice t) d [u]:=hr;obtain⟨a,cap,e1,e2,e3⟩:=hrx;simp only[AqF,AsB]at e1;refine⟨a,cap,e1,e2,fun hne => ?_,?_⟩;grind;by_cases hne:d=[]
 subst hne;exact⟨[],rfl,fun ad _ j u hu=>by grind⟩;grind;rename_i t' d;simp only[Ap2,Ap9]at h;obtain⟨y,h1,rfl,rfl⟩:=h;obtain⟨e,h2⟩:=C4 h1;injection e with e;subst e;simp only at h2;subst h2;unfold Rep at hr;obtain⟨a,cap,e1,e2,e3⟩:=hr.1;simp only[AqF,AsB]at e1;refine⟨a,cap,e1,e2,fun hne => ?_,?_⟩;grind;by_cases hne:d=[]
 subst hne;exact⟨[],rfl,fun ad _ j u hu=>by grind⟩;grind;simp only[Apq,Ap9]at h;obtain⟨rfl,rfl⟩:=h;unfold Rep at hr;exact⟨none,0,hr,Ap1 _,fun h=>absurd rfl h,[],rfl,fun ad _ j u hu=>by grind⟩;rename_i id;split at h;rename_i T e xs ho;simp only[Ap2,Ap9]at h;obtain⟨y,h1,rfl,rfl⟩:=h;obtain⟨e',h2⟩:=C4 h1;injection e' with e';subst e';simp only at h2;subst h2;unfold Rep at hr;rw[ho]at hr;obtain⟨_,hob⟩:=hi.obj id _ ho;cases hm:m id with
  |none=>rw[hm]at hr hob;obtain⟨a,rfl⟩:=hr;simp only at hob;subst hob;exact⟨a,0,rfl,Ap1 _,fun h=>absurd rfl h,[],rfl,fun ad _ j u hu=>by grind⟩
  |some p=>obtain⟨b,cap⟩:=p;rw[hm]at hr hob;obtain⟨vs,row,e1,e2,e3,e4,e5,e6⟩:=hob;refine⟨_,cap,hr,e2,fun _=>rfl,row,e5,fun ad h j u hu => ?_⟩;cases h;rw[CB,Aqg,DJ e1];grind
 grind;rename_i id off n;split at h;rename_i T e xs ho;simp only[Ap2,Ap9]at h;obtain⟨y,h1,rfl,rfl⟩:=h;obtain⟨e',h2⟩:=C4 h1;injection e' with e';subst e';simp only at h2;subst h2;unfold Rep at hr;rw[ho]at hr;obtain⟨hle,hr⟩:=hr;have hcl:(Eo off n xs).length=n:=by unfold Eo;grind
 obtain⟨_,hob⟩:=hi.obj id _ ho;cases hm:m id with
  |none=>
   rw[hm]at hr hob;obtain⟨a,rfl⟩:=hr;simp only at hob;subst hob;have hn:n=0:=by grind
   subst hn;have hd:Eo off 0 ([]:List e.den)=[]:=by grind
   exact⟨a,0,by rw[hcl],by omega,fun h=>absurd hd h,[],by rw[hd];rfl,fun ad _ j u hu=>by grind⟩
  |some p=>
   obtain⟨b,cap⟩:=p;rw[hm]at hr hob;obtain⟨vs,row,e1,e2,e3,e4,e5,e6⟩:=hob;obtain⟨a,rfl,ha⟩:=hr;have hk:=fun(x:e.den) cs (h:Dat w F e x cs)=>Dat.length e h;have hrw:=D5 hk n (Hn hk off e5);refine⟨a,cap-off,by rw[hcl],by omega,fun hne => ?_,_,hrw,fun ad h j u hu => ?_⟩;have hn:0<n:=by grind
   grind;have hn:0<n:=by grind
   rw[ha (by omega)]at h;cases h;rw[CB,DJ e1];grind
 grind;split at h;simp[cast]at h;grind;grind
end
end Go.Pev
end
section
namespace Go.Pev
open Go.RowKit
section
variable {P:Program} {E:Env}
theorem Af.kill{w:World}{F:Nat→Prop}{m:Mp}{H:List Ob}{fz:List Bool}(hi:HI w F m H fz){j:Nat}(hoj:owned H fz j):Af w F m H fz w F m (H.set j .dead) fz:=by
 obtain⟨oj,hj,hjf,hjd⟩:=Eu hoj;have hlt:=Aj hj;have hgj:(H.set j .dead)[j]? = some .dead:=Ax hlt;have hcomp:CQ H (H.set j .dead) m m:=by
  intro i x hix hf;by_cases hij:i=j;grind
  ·rcases CQ.refl H m i x hix hf with h|⟨hd,x',h4,h5,_⟩
   all_goals grind
 have hown:∀ i:Ix,owned (H.set j .dead) fz i→owned H fz i:=fun i hoi=>by by_cases hij:i.id=j;obtain⟨o,ho,_,hd⟩:=DD hoi;grind;exact(Cg (Aw hij)).1 hoi
 refine⟨⟨rfl,rfl,rfl,Ap1 _,fun _ _ _=>rfl,fun _ h=>h,fun _ h=>.inl h,fun i b c h1 h2=>.inl ⟨i,c,hown i h1,h2⟩,hcomp⟩,⟨?_,?_,?_,?_,?_,?_,hi.lt,hi.glo,by simpa using hi.len⟩⟩;intro id x hix;by_cases hij:id=j;subst hij;rw[hgj]at hix;cases hix;trivial;rw[Aw hij]at hix;exact ObI.mono (fun _ _=>rfl) (fun _ h=>h) hcomp (fun _ _ _ _ _ _=>rfl) (hi.obj id x hix);intro i;by_cases hij:i=j;subst hij;exact B7.plain hgj rfl;exact B7.mono (fun _ _=>rfl) (fun _ h=>h) hcomp (Aw hij) (fun _ _=>rfl) (fun _ _ _ _ _ _ _=>rfl) (hi.row i);intro i T e t xs ver out hio hf x hx ht b c hm;by_cases hij:i=j;grind;rw[Aw hij]at hio;exact hi.rfz i T e t xs ver out hio hf x hx ((Ce (by grind)).1 ht) b c hm;exact fun i k b c b' c' h1 h2=>hi.sep i k b c b' c' (hown i h1) (hown k h2);exact fun i b c h1=>hi.off i b c (hown i h1);intro i T t xs b c hio hf hmi;by_cases hij:i=j;grind;rw[Aw hij]at hio;exact hi.froz i T t xs b c hio hf hmi
theorem K6{H:List Ob}{fz:List Bool}{slot j:Nat}{o:Ob}(h:Aq H fz slot=true)(hne:slot≠j):Aq (H.set j o) fz slot=true:=by unfold Aq at *;grind
theorem B6{w w':World}{ρc:Operand→Value}{o:Oper}{T:TypeId}{s x:Operand}{v n u:Value}(hop:o.op = .call { callee:=.builtin .append,args:=#[s,x],argTypes:=#[T,T] })(e1:ρc s=v)(e2:ρc x=n)
  (hrun:(Builtin.append_ #[T,T] o.type #[v,n]).run P w = .ok u w'):(execOp ρc o).run P w = .ok (.value u) w':=by simp[execOp,hop,resolve,invoke,builtin,e1,e2,hrun]
theorem G6{w:World}{T e ty:TypeId}{i:TypeInfo}(hu:P.underlying T=some (.slice e))(hi:P.info? e=some i)(a:Option Addr){n cap:Nat}(hn:n≤cap)(A:Option Addr)(c:Nat):
  (Builtin.append_ #[T,T] ty #[.slice a n cap,.slice A 0 c]).run P w = .ok (.slice a n cap) w:=by
 have hf:(Builtin.firstCells i.size 0 (.slice A 0 c)).run P w = .ok #[] w:=by
  cases A with
   |none=>simp[Builtin.firstCells]
   |some ad=>simp[Builtin.firstCells,Go.loadCells,loadCellsFrom]
 cases a with
  |none=>simp[Builtin.append_,run_underlying hu,run_sizeOf hi,Builtin.lenOf,hn,hf]
  |some ad=>simp[Builtin.append_,run_underlying hu,run_sizeOf hi,Builtin.lenOf,hn,hf,storeCells]
structure Apm(w:World)(a:Option Addr)(n cap:Nat)(e:TypeId)(sz:Nat)(m:Nat)(old news:List Value)(v:Value)(w':World):Prop where
 os:w'.os=w.os
 tape:w'.tape=w.tape
 output:w'.output=w.output
 size:w.heap.size≤w'.heap.size
 keep:∀ k,k<w.heap.size→(∀ b,a=some ⟨b,0,none⟩→k≠b)→w'.heap[k]? = w.heap[k]?
 res:(m=0∧v = .slice a n cap∧w'=w)∨(∃ g cap' vs,v = .slice (some ⟨g,0,none⟩) (n+m) cap'∧w'.heap[g]? = some (.cells vs e (0,0))∧n+m≤cap'∧cap'≤maxLen∧vs.size=cap'*sz ∧
   vs.toList.take ((n+m)*sz)=old++news∧(w.heap.size≤g∨a=some ⟨g,0,none⟩))
theorem PI{w:World}{T e ty:TypeId}{i:TypeInfo}{z:Value}(hu:P.underlying T=some (.slice e))(hi:P.info? e=some i)(hz:i.zero=some z)(hzs:z.cells.size=i.size)(hsz:0<i.size)
  {b n cap:Nat} {vs:Array Value} (hb:w.heap[b]? = some (.cells vs e (0,0))) (hn:n≤cap) (hmax:cap≤maxLen) (hvs:vs.size=cap*i.size) {A:Option Addr} {m c:Nat} {news:List Value} (hl:news.length=m*i.size)
  (hA:0<m→A.isSome=true) (hnews:∀ ad,A=some ad→∀ j u,news[j]? = some u→w.cell? (ad.add j)=some u) (h1:∀ u∈news,u.oneCell'=true) (hfit:n+m≤4294967296) (hby:i.bytes≤1024) :
  ∃ v w',(Builtin.append_ #[T,T] ty #[.slice (some ⟨b,0,none⟩) n cap,.slice A m c]).run P w = .ok v w'∧Apm w (some ⟨b,0,none⟩) n cap e i.size m (vs.toList.take (n*i.size)) news v w':=by
 have hbytes:(n+m)*i.bytes≤140737488355328:=ArD (Ar8 hfit hby) (by omega);have hown:w.ownsRow 0 e i.size (.slice (some ⟨b,0,none⟩) n cap) n (vs.toList.take (n*i.size)):=by refine⟨?_,.inr ⟨b,cap,vs,rfl,AsH _,hb,hn,hmax,hvs,rfl⟩⟩;simp_all
 cases A with
  |none=>
   have hm:m=0:=by grind
   subst hm;exact⟨_,w,G6 hu hi _ hn none c,rfl,rfl,rfl,Ap1 _,fun _ _ _=>rfl,.inl ⟨rfl,rfl,rfl⟩⟩
  |some ad=>
   obtain⟨v',w',hrun,⟨hl',hres⟩,hg,_,hat⟩:=run_append_own_at (P:=P) w 0 T ty e i z i.size i.bytes hu hi hz rfl rfl hzs hsz _ n _ hown ad m c news hl (hnews ad rfl) h1 (by simp only[maxLen];omega) hbytes (AsH _);refine⟨v',w',hrun,hg.os,hg.tape,hg.output,hg.size,fun k hk hne=>hg.block k hk (by simp[Value.ownBlock];grind),.inr ?_⟩;rcases hres with⟨rfl,h0⟩|⟨g,cap',cur,rfl,_,h2,h3,h4,h5,h6⟩
   grind;refine⟨g,cap',cur,rfl,h2,h3,h4,h5,h6,?_⟩;rcases hat with h|h;simp only[Value.ownBlock,Apq]at h;grind;simp only[Value.ownBlock,Apq]at h;omega
theorem JW{w:World}{T e ty:TypeId}{i:TypeInfo}{z:Value}(hu:P.underlying T=some (.slice e))(hi:P.info? e=some i)(hz:i.zero=some z)(hzs:z.cells.size=i.size)
  (a:Option Addr) {A:Option Addr} {m c:Nat} {news:List Value} (hl:news.length=m*i.size)
  (hA:0<m→A.isSome=true) (hnews:∀ ad,A=some ad→∀ j u,news[j]? = some u→w.cell? (ad.add j)=some u) (hfit:m≤4294967296) (hby:i.bytes≤1024) :
  ∃ v w',(Builtin.append_ #[T,T] ty #[.slice a 0 0,.slice A m c]).run P w = .ok v w'∧w'.os=w.os∧w'.tape=w.tape∧w'.output=w.output∧w.heap.size≤w'.heap.size∧(∀ k,k<w.heap.size→w'.heap[k]? = w.heap[k]?) ∧
   ((m=0∧v = .slice a 0 0)∨(∃ cap' vs,v = .slice (some ⟨w.heap.size,0,none⟩) m cap'∧w'.heap[w.heap.size]? = some (.cells vs e (0,0))∧m≤cap'∧cap'≤maxLen∧vs.size=cap'*i.size∧vs.toList.take (m*i.size)=news)):=by
 rcases ArR m with h0|h0;subst h0;exact⟨_,w,G6 hu hi a (Ap1 _) A c,rfl,rfl,rfl,Ap1 _,fun _ _=>rfl,.inl ⟨rfl,rfl⟩⟩;obtain⟨ad,rfl⟩:=Aqs.1 (hA h0);have hmb:m*i.bytes≤281474976710656:=ArD (Ar8 hfit hby) (by omega);have hge:=grownCap_ge w m 0 e;have hle:=grownCap_le_maxLen w m 0 e (by simp only[maxLen];omega);have fin:∀ vs:Array Value,vs.toList=news++(Builtin.zeroCells z.cells (grownCap w m 0 e-m)).toList→vs.size=grownCap w m 0 e*i.size∧vs.toList.take (m*i.size)=news:=by intro vs hvs;refine⟨?_,?_⟩;rw[← AqG,hvs,Ap3,hl,AqG,size_zeroCells,hzs,← Aq7];grind;grind
 cases a with
  |none=>have hr:=run_append_nil (P:=P) w T ty e i z hu hi hz ad m c news hl (hnews ad rfl) h0 (by omega) hmb;obtain⟨f1,f2⟩:=fin (news.toArray++Builtin.zeroCells z.cells (grownCap w m 0 e-m)) (by simp);exact⟨_,_,hr,rfl,rfl,rfl,by simp,fun k hk=>heap_alloc_old w.drew _ k hk,.inr ⟨_,_,rfl,heap_alloc_new w.drew _,hge,hle,f1,f2⟩⟩
  |some b=>
   have hr:=run_append_grow (P:=P) w T ty e i z hu hi hz b 0 0 [] (by simp) (fun j v h=>by simp at h) ad m c news hl (hnews ad rfl) (by omega) (by omega) (by rw[Aqg];have:Builtin.nextslicecap m 0=m:=nextslicecap_zero h0;grind)
   simp only[Aqg]at hr;obtain⟨f1,f2⟩:=fin (([]:List Value).toArray++news.toArray++Builtin.zeroCells z.cells (grownCap w m 0 e-m)) (by simp);exact⟨_,_,hr,rfl,rfl,rfl,by simp,fun k hk=>heap_alloc_old w.drew _ k hk,.inr ⟨_,_,rfl,heap_alloc_new w.drew _,hge,hle,f1,f2⟩⟩
end
end Go.Pev
end
section
namespace Go.Pev
open Go.RowKit
section
variable {P:Program} {E:Env}
theorem AGD{H:List Ob}{fz:List Bool}{slot id:Nat}{T:TypeId}{t:Ty}{xs:List t.den}(hf:Aq H fz slot=true)(ho:H[id]? = some (.arr T t xs)):slot≠id:=by rintro rfl;rw[(BM hf).1]at ho;cases ho
theorem FY{w:World}{F:Nat→Prop}{m:Mp}{H:List Ob}{fz:List Bool}(hi:HI w F m H fz){slot:Nat}(hf:Aq H fz slot=true){T e ty:TypeId}{t:Ty}{i:TypeInfo}{z:Value}(hu:P.underlying T=some (.slice e))
  (hi0:P.info? e=some i) (hz:i.zero=some z) (hzs:z.cells.size=i.size) (hsz:i.size=t.size) (hpos:0<t.size) (hby:i.bytes≤1024) {ys:List t.den} (hfit:ys.length≤4294967296) (a:Option Addr)
  {A:Option Addr} {c:Nat} {news:List Value} (hA:ys≠[]→A.isSome=true) (hrows:rows (Dat w F t) ys news) (hnews:∀ ad,A=some ad→∀ j u,news[j]? = some u→w.cell? (ad.add j)=some u) :
  ∃ v w' m',(Builtin.append_ #[T,T] ty #[.slice a 0 0,.slice A ys.length c]).run P w = .ok v w'∧Af w F m H fz w' F m' (H.set slot (.arr e t ys)) fz∧Rep w' F m' (H.set slot (.arr e t ys)) (.own slot) v:=by
 have hk:=fun(x:t.den) cs (h:Dat w F t x cs)=>Dat.length t h;have hl:=A9 hk hrows;obtain⟨v,w',hrun,h1,h2,h3,h4,h5,h6⟩:=JW (P:=P) (w:=w) (ty:=ty) hu hi0 hz hzs a (A:=A) (m:=ys.length) (c:=c) (news:=news) (by grind) (fun h=>hA (by grind)) hnews hfit hby;rcases h6 with⟨h0,rfl⟩|⟨cap',vs,rfl,q1,q2,q3,q4,q5⟩
 have hy:ys=[]:=AqN h0;subst hy;have hgw:=Af.grow hi h1 h2 h3 h4 h5;obtain⟨m',hg,hrep⟩:=Dr hgw.2 hf e hpos a;exact⟨_,w',m',hrun,hgw.trans hg,hrep⟩;obtain⟨m',hg,hrep⟩:=FK hi hf hpos q1 h1 h2 h3 h4 h5 q2 q3 (by grind) hrows (by grind);grind
theorem AMb{w:World}{F:Nat→Prop}{m:Mp}{H:List Ob}{fz:List Bool}(hi:HI w F m H fz){slot:Nat}(hf:Aq H fz slot=true){T e ty:TypeId}{t:Ty}{i:TypeInfo}{z:Value}(hu:P.underlying T=some (.slice e))
  (hi0:P.info? e=some i) (hz:i.zero=some z) (hzs:z.cells.size=i.size) (hsz:i.size=t.size) (hpos:0<t.size) (hby:i.bytes≤1024) {xs ys:List t.den} (hfit:xs.length+ys.length≤4294967296) (hne:ys≠[])
  {s:Value} (hs:Rep w F m H (.clip t xs) s) {A:Option Addr} {c:Nat} {news:List Value} (hA:ys≠[]→A.isSome=true) (hrows:rows (Dat w F t) ys news) (hnews:∀ ad,A=some ad→∀ j u,news[j]? = some u→w.cell? (ad.add j)=some u) :
  ∃ v w' m',(Builtin.append_ #[T,T] ty #[s,.slice A ys.length c]).run P w = .ok v w'∧Af w F m H fz w' F m' (H.set slot (.arr e t (xs++ys))) fz∧Rep w' F m' (H.set slot (.arr e t (xs++ys))) (.own slot) v:=by
 have hk:=fun(x:t.den) cs (h:Dat w F t x cs)=>Dat.length t h;unfold Rep at hs;obtain⟨⟨a0,cap0,q1,_,q3⟩,a,rfl⟩:=hs;simp only[AqF,Value.slice.injEq,AsB]at q1;obtain⟨rfl, -, -⟩:=q1;by_cases hx:xs=[]
 subst hx;exact FY hi hf hu hi0 hz hzs hsz hpos hby (by omega) a hA hrows hnews;obtain⟨ad,row,rfl,hF,hr0,hc0⟩:=q3 hx;obtain⟨bd,rfl⟩:=Aqs.1 (hA hne);have hl:=A9 hk hrows;have hrl:=A9 hk hr0;have hy0:0<ys.length:=List.length_pos_iff.2 hne;have hbytes:(xs.length+ys.length)*i.bytes≤140737488355328:=ArD (Ar8 hfit hby) (by omega);have hr:=run_append_grow (P:=P) w T ty e i z hu hi0 hz ad xs.length xs.length row (by grind) hc0 bd ys.length c news (by grind) (hnews bd rfl) (by omega) (by omega) (growslice_fits (by omega) hbytes);have hge:=grownCap_ge w (xs.length+ys.length) xs.length e;have hle:=grownCap_le_maxLen w (xs.length+ys.length) xs.length e (by simp only[maxLen];omega);have hlen:(row++news).length=(xs.length+ys.length)*t.size:=by grind
 obtain⟨m',hg,hrep⟩:=FK hi hf (w':=w.drew.alloc (.cells (row.toArray++news.toArray++Builtin.zeroCells z.cells (grownCap w (xs.length+ys.length) xs.length e-(xs.length+ys.length))) e)) hpos (xs:=xs++ys) (heap_alloc_new w.drew _) rfl rfl rfl (by simp) (fun b hb=>heap_alloc_old w.drew _ b hb)
  (cap:=grownCap w (xs.length+ys.length) xs.length e) (by grind) hle (by
   rw[Array.size_append,Array.size_append,Aq0,Aq0,size_zeroCells,hzs,hsz,hrl,hl,← Aq7,← Aq7];grind) (IJ hr0 hrows) (by
   grind)
 grind
theorem Tx{w:World}{F:Nat→Prop}{m:Mp}{H:List Ob}{fz:List Bool}(hi:HI w F m H fz){slot:Nat}(hf:Aq H fz slot=true){T e ty:TypeId}{t:Ty}{i:TypeInfo}{z:Value}(hu:P.underlying T=some (.slice e))
  (hi0:P.info? e=some i) (hz:i.zero=some z) (hzs:z.cells.size=i.size) (hsz:i.size=t.size) (hpos:0<t.size) (hby:i.bytes≤1024) {id:Nat} {xs:List t.den} (ho:H[id]? = some (.arr e t xs)) (hun:AZ fz id=true)
  {b cap:Nat} (hm:m id=some (b,cap)) {n:Nat} (hn:n≤xs.length) {ys:List t.den} (hfit:n+ys.length≤4294967296)
  {A:Option Addr} {c:Nat} {news:List Value} (hA:ys≠[]→A.isSome=true) (hrows:rows (Dat w F t) ys news) (hnews:∀ ad,A=some ad→∀ j u,news[j]? = some u→w.cell? (ad.add j)=some u) :
  ∃ v w' m',(Builtin.append_ #[T,T] ty #[.slice (some ⟨b,0,none⟩) n cap,.slice A ys.length c]).run P w = .ok v w' ∧
   Af w F m H fz w' F m' ((H.set id .dead).set slot (.arr e t (xs.take n++ys))) fz∧Rep w' F m' ((H.set id .dead).set slot (.arr e t (xs.take n++ys))) (.own slot) v:=by
 have hk:=fun(x:t.den) cs (h:Dat w F t x cs)=>Dat.length t h;have hl:=A9 hk hrows;obtain⟨_,hob⟩:=hi.obj id _ ho;rw[hm]at hob;obtain⟨vs,row,e1,e2,e3,e4,e5,e6⟩:=hob;have hrl:=A9 hk e5;have hold:vs.toList.take (n*i.size)=row.take (n*t.size):=by rw[← e6,AsV,hsz,Aqw (by rw[hrl];exact Aqj _ hn)]
 obtain⟨v,w',hrun,hgr⟩:=PI (P:=P) (w:=w) (ty:=ty) hu hi0 hz hzs (by omega) e1 (n:=n) (by omega) e3 (by grind) (A:=A) (m:=ys.length) (c:=c) (news:=news) (by grind) (fun h=>hA (by grind)) hnews
  (fun u hu=>Ps (fun x cs (h:Dat w F t x cs)=>Dat.HS t h) hrows u hu) hfit hby
 rw[hold]at hgr;have hlen:(xs.take n++ys).length=n+ys.length:=by grind
 have hr0:=IJ (D5 hk n e5) hrows;have hcell:∀ k,F k→w'.heap[k]? = w.heap[k]? := fun k ha=>by
  have h1:k≠b:=by rintro h;exact hi.off id b cap (CO ho hun) hm (h▸ha)
  exact hgr.keep _ (hi.lt _ ha) (fun b' h=>by grind)
 have hlts:=Aj (BM hf).1;have hgs:((H.set id .dead).set slot (.arr e t (xs.take n++ys)))[slot]? = some (.arr e t (xs.take n++ys)):=Ax (by grind)
 have main:∀ (g cap':Nat) (vs':Array Value),(w.heap.size≤g∨g=b)→w'.heap[g]? = some (.cells vs' e (0,0))→n+ys.length≤cap'→cap'≤maxLen→vs'.size=cap'*t.size→vs'.toList.take ((n+ys.length)*t.size)=row.take (n*t.size)++news →
   ∃ m',Af w F m H fz w' F m' ((H.set id .dead).set slot (.arr e t (xs.take n++ys))) fz∧Rep w' F m' ((H.set id .dead).set slot (.arr e t (xs.take n++ys))) (.own slot) (.slice (some ⟨g,0,none⟩) (n+ys.length) cap'):=by
  intro g cap' vs' hg q1 q2 q3 q4 q5
  have:=Af.move (w':=w') hi (CO ho hun) hm hf (ob:=.arr e t (xs.take n++ys)) trivial (b':=g) (c':=cap') hg.symm hgr.os hgr.tape hgr.output hgr.size (fun k hk hne=>hgr.keep k hk (fun b' h=>by grind))
   (fun _=>⟨hpos,vs',row.take (n*t.size)++news,q1,by omega,q3,q4,BL (fun x _ cs hx=>hx.mono hcell (fun _ h=>h) t) hr0,by
    grind⟩)
  refine⟨_,this,?_⟩
  unfold Rep
  rw[hgs,Am,← hlen]
  rfl
 rcases hgr.res with⟨h0,rfl,rfl⟩|⟨g,cap',vs',rfl,q1,q2,q3,q4,q5,q6⟩
 have hy:ys=[]:=AqN h0;subst hy;obtain⟨m',hg,hrep⟩:=main b cap vs (.inr rfl) e1 (by omega) e3 e4 (by simp_all)
 grind;grind
theorem AGK{w w':World}{ρc:Operand→Value}{o:Oper}{T T':TypeId}{s x:Operand}{v n u:Value}(hop:o.op = .call { callee:=.builtin .append,args:=#[s,x],argTypes:=#[T,T'] })(e1:ρc s=v)(e2:ρc x=n)
  (hrun:(Builtin.append_ #[T,T'] o.type #[v,n]).run P w = .ok u w'):(execOp ρc o).run P w = .ok (.value u) w':=by simp[execOp,hop,resolve,invoke,builtin,e1,e2,hrun]
theorem AMZ{w:World}{F:Nat→Prop}{m:Mp}{H:List Ob}{fz:List Bool}(hi:HI w F m H fz){slot:Nat}(hf:Aq H fz slot=true){T T' e ty:TypeId}{t:Ty}{i:TypeInfo}{z:Value}(hu:P.underlying T=some (.slice e))
  (hi0:P.info? e=some i) (hz:i.zero=some z) (hok:B1 (zeroCells t) z.cells.toList=true) (hsz:i.size=t.size) (hpos:0<t.size) (hby:i.bytes≤1024) {kt kx:IntKind} (hk:P.underlying T'=some (.int kt)) {n:Nat} (hfit:n≤4294967296) :
  ∃ v w' m',(Builtin.append_ #[T,T'] ty #[.slice none 0 0,.int kx n]).run P w = .ok v w'∧Af w F m H fz w' F m' (H.set slot (.arr e t (List.replicate n t.zero))) fz∧Rep w' F m' (H.set slot (.arr e t (List.replicate n t.zero))) (.own slot) v:=by
 have hzd:=Be (w:=w) (F:=F) t _ hok;have hzl:z.cells.size=t.size:=by rw[← AqG];exact Dat.length t hzd
 have hw:IntKind.i64.wrap (n:Int)=n:=IntWalk.i64_in _ (by omega);have hbb:(n:Int)*(i.bytes:Int)≤281474976710656:=by have:n*i.bytes≤4294967296*1024:=Ar8 hfit hby;omega
 rcases ArR n with h0|h0;subst h0;obtain⟨m',hg,hrep⟩:=Dr (w:=w) hi hf e hpos none;refine⟨.slice none 0 0,w,m',?_,by grind,by grind⟩;have hw0:IntKind.i64.wrap 0=0:=hw;simp[Builtin.append_,run_underlying hu,run_underlying hk,sizeOf,typeInfo,hi0,asInt,asIntOf,hw0];have hge:=grownCap_ge w n 0 e;have hle:=grownCap_le_maxLen w n 0 e (by simp only[maxLen];omega);have hrows:=E6 (w:=w) (F:=F) hzd n;have hrl:=A9 (fun x cs (h:Dat w F t x cs)=>Dat.length t h) hrows;rw[ArB]at hrl;have hcells:∀ k,(Builtin.zeroCells z.cells k).toList=(List.replicate k z.cells.toList).flatten:=Cy z.cells;have hrun:(Builtin.append_ #[T,T'] ty #[.slice none 0 0,.int kx n]).run P w = .ok (.slice (some ⟨w.heap.size,0,none⟩) n (grownCap w n 0 e)) (w.drew.alloc (.cells (Builtin.zeroCells z.cells n++Builtin.zeroCells z.cells (grownCap w n 0 e-n)) e)):=by
  have hn:n≠0:=by omega
  have hn2:¬ ((n:Int)<0):=by omega
  have hn3:¬ (281474976710656<(n:Int)*(i.bytes:Int)):=by omega
  have h63':¬ (9223372036854775807<(n:Int)):=by omega
  have h48':¬ (281474976710656<Builtin.nextslicecap n 0*i.bytes):=by rw[nextslicecap_zero h0];omega
  have hsz0:¬ (i.size=0):=by omega
  simp[Builtin.append_,run_underlying hu,run_underlying hk,sizeOf,typeInfo,zeroValue,hi0,hz,asInt,asIntOf,hw,hn,hn2,hn3,h63',h48',Question.forced,run_firstCells_none,newRow,grownCap];grind
 obtain⟨m',hg,hrep⟩:=FK hi hf (w':=w.drew.alloc (.cells (Builtin.zeroCells z.cells n++Builtin.zeroCells z.cells (grownCap w n 0 e-n)) e)) hpos (xs:=List.replicate n t.zero) (heap_alloc_new w.drew _) rfl rfl rfl (by simp) (fun b hb=>heap_alloc_old w.drew _ b hb)
  (cap:=grownCap w n 0 e) (by grind) hle (by
   rw[Array.size_append,size_zeroCells,size_zeroCells,hzl,← Aq7];grind) hrows (by
   grind)
 grind
end
end Go.Pev
end
section
namespace Go.Pev
open Go.RowKit
section
variable {P:Program}
theorem N2{H:List Ob}{fz:List Bool}{ids:List Nat}{i:Ix}(h:owned H (AY ids fz) i):owned H fz i:=by
 cases i with
  |r i k=>simp only[owned]at *;split at h;rw[Av]at h;grind;omega
  |o i=>
   simp only[owned,Bv]at *;cases ho:H[i]? with
    |none=>grind
    |some o=>
     rw[ho]at h;cases o with
      |free=>omega
      |dead=>omega
      |box cs=>trivial
      |map k v es=>trivial
      |prs T t is=>trivial
      |rows T e t xs ver out=>simp only at h ⊢;rw[Av]at h;grind
      |arr T t xs=>simp only at h ⊢;rw[Av]at h;grind
theorem ACi{w w':World}{F:Nat→Prop}{m:Mp}{H:List Ob}{fz:List Bool}(hi:HI w F m H fz){id:Nat}{e:TypeId}{t:Ty}{xs:List t.den}(ho:H[id]? = some (.arr e t xs))(hun:AZ fz id=true)
  (os:w'.os=w.os) (tape:w'.tape=w.tape) (output:w'.output=w.output) (size:w.heap.size≤w'.heap.size) (G:Nat→Prop)
  (hG:∀ k,G k→k<w'.heap.size∧((∃ c,m id=some (k,c))∨w.heap.size≤k)) (hb:∀ b c,m id=some (b,c)→G b)
  (hkeep:∀ k,k<w.heap.size→(∀ c,m id≠some (k,c))→w'.heap[k]? = w.heap[k]?)
  (hob:ObI w' (fun k=>F k∨G k) m H (.arr e t xs) (m id)):Af w F m H fz w' (fun k=>F k∨G k) m H (AY [id] fz):=by
 have hid:=CO ho hun;have hown:∀ i:Ix,owned H (AY [id] fz) i→owned H fz i∧i≠.o id:=by
  intro i h;refine⟨N2 h,?_⟩;rintro rfl;simp only[owned,Bv]at h;rw[ho]at h;simp only at h;rw[Av]at h;have hl:id<fz.length:=by rw[← hi.len];grind
  grind
 have hcell:∀ k,F k→w'.heap[k]? = w.heap[k]? := fun k ha=>hkeep _ (hi.lt _ ha) (fun c hc=>hi.off id _ c hid hc ha);refine⟨⟨os,tape,output,size,fun b hb' hne=>hkeep b hb' (fun c hc=>hne id c hid hc),fun _ h=>.inl h,?_,fun i b c h1 h2=>.inl ⟨i,c,(hown i h1).1,h2⟩,CQ.refl H m⟩,⟨?_,?_,?_,?_,?_,?_,?_,hi.glo.mono hcell (fun _ h=>.inl h),by rw[DB];exact hi.len⟩⟩;grind;intro j o hj;by_cases hji:j=id;grind;exact ObI.mono hcell (fun _ h=>.inl h) (CQ.refl H m) (fun hf hd b c hl hlt=>hkeep b hlt (fun c' hc'=>hi.ne hid hc' hj hf hd hl hji rfl)) (hi.obj j o hj);intro i;by_cases hne:i=id;subst hne;exact B7.plain ho rfl;exact B7.mono hcell (fun _ h=>.inl h) (CQ.refl H m) rfl (fun _ _=>rfl) (fun x hx hox b c hl hlt=>hkeep b hlt (fun c' hc'=>hi.neX hid hc' hox hl (by rintro rfl;exact hne hx.symm) rfl)) (hi.row i);intro i T' e' t' xs' ver out hio hf x hx ht b c hm;have hne:i≠id:=by grind
 rw[Av]at hf;simp only[Aqu,Apt,Aps,AqR]at hf;rcases hf with hf|⟨hf,_⟩
 exact .inl (hi.rfz i T' e' t' xs' ver out hio hf x hx ht b c hm);omega;exact fun i j b c b' c' h1 h2=>hi.sep i j b c b' c' (hown i h1).1 (hown j h2).1;rintro i b c h1 h2 (hF|hg);exact hi.off i b c (hown i h1).1 h2 hF;rcases(hG b hg).2 with⟨c',hc'⟩|h;exact hi.sep i id b c b c' (hown i h1).1 hid (hown i h1).2 h2 hc' rfl;have:=hi.IU (hown i h1).1 h2;omega;intro i T t' xs' b c hio hf hmi;by_cases hii:i=id;grind;refine .inl (hi.froz i T t' xs' b c hio ?_ hmi);rw[Av]at hf;grind;rintro b (h|h);exact Aq1 (hi.lt b h) size;grind
theorem Ahj{w':World}{F':Nat→Prop}{m:Mp}{H:List Ob}{g cap:Nat}{vs:Array Value}{e:TypeId}{t:Ty}{zs:List t.den}{row:List Value}(hg:w'.heap[g]? = some (.cells vs e (0,0)))(ht:vs.toList.take row.length=row)
  (hrows:rows (Dat w' F' t) zs row) (hle:zs.length≤cap) (hF:F' g) {n:Nat} (hn:n=zs.length):Rep w' F' m H (.data (.slice t) zs) (.slice (some ⟨g,0,none⟩) n cap):=by
 subst hn;unfold Rep;show Dat w' F' (.slice t) zs [_];refine⟨some ⟨g,0,none⟩,cap,rfl,hle,fun _=>⟨⟨g,0,none⟩,row,rfl,hF,hrows,fun j u hj => ?_⟩⟩;rw[Addr.add_lit,Aqg];have hj':vs.toList[j]? = some u:=by grind
 rw[Aqo]at hj';simp[World.cell?,hg,hj']
theorem AMa{w:World}{F:Nat→Prop}{m:Mp}{H:List Ob}{fz:List Bool}(hi:HI w F m H fz){T e ty:TypeId}{t:Ty}{i:TypeInfo}{z:Value}(hu:P.underlying T=some (.slice e))
  (hi0:P.info? e=some i) (hz:i.zero=some z) (hzs:z.cells.size=i.size) (hsz:i.size=t.size) (hpos:0<t.size) (hby:i.bytes≤1024) {id:Nat} {xs:List t.den} (ho:H[id]? = some (.arr e t xs)) (hun:AZ fz id=true)
  {ys:List t.den} (hfit:xs.length+ys.length≤4294967296)
  {A:Option Addr} {c:Nat} {news:List Value} (hA:ys≠[]→A.isSome=true) (hrows:rows (Dat w F t) ys news) (hnews:∀ ad,A=some ad→∀ j u,news[j]? = some u→w.cell? (ad.add j)=some u)
  {s:Value} (hs:Rep w F m H (.own id) s) :
  ∃ v w' F',(Builtin.append_ #[T,T] ty #[s,.slice A ys.length c]).run P w = .ok v w'∧Af w F m H fz w' F' m H (AY [id] fz)∧Rep w' F' m H (.data (.slice t) (xs++ys)) v:=by
 have hk:=fun(x:t.den) cs (h:Dat w F t x cs)=>Dat.length t h;have hl:=A9 hk hrows;have hid:=CO ho hun;unfold Rep at hs;rw[ho]at hs;have hob:=hi.obj id _ ho;obtain⟨_,hob'⟩:=hob;cases hm:m id with
  |none=>
   rw[hm]at hs hob';obtain⟨a,rfl⟩:=hs;simp only at hob';subst hob';obtain⟨v,w',hrun,h1,h2,h3,h4,h5,h6⟩:=JW (P:=P) (w:=w) (ty:=ty) hu hi0 hz hzs a (A:=A) (m:=ys.length) (c:=c) (news:=news) (by grind) (fun h=>hA (by grind)) hnews (by omega) hby;have hg:=ACi (w':=w') hi ho hun h1 h2 h3 h4 (fun k=>k=w.heap.size∧k<w'.heap.size) (fun k hk=>⟨hk.2,.inr (Ars hk.1.symm)⟩) (fun b c h=>by grind) (fun k hk _=>h5 k hk) (by rw[hm];exact⟨hpos,rfl⟩)
   refine⟨v,w',_,hrun,hg,?_⟩;rw[AqI];rcases h6 with⟨h0,rfl⟩|⟨cap',vs,rfl,q1,q2,q3,q4,q5⟩
   have hy:ys=[]:=AqN h0;subst hy;unfold Rep;exact⟨a,0,rfl,Ap1 _,fun h=>absurd rfl h⟩;have hcell:∀ k,F k→w'.heap[k]? = w.heap[k]? := fun k ha=>h5 _ (hi.lt _ ha);exact Ahj q1 (by grind) (BL (fun x _ cs hx=>hx.mono hcell (fun _ h=>.inl h) t) hrows) q2 (.inr ⟨rfl,BW q1⟩) rfl
  |some p=>
   obtain⟨b,cap⟩:=p;rw[hm]at hs hob';simp only[A4]at hs;obtain⟨vs,row,e1,e2,e3,e4,e5,e6⟩:=hob';subst hs;have hrl:=A9 hk e5;have hblt:b<w.heap.size:=BW e1;have hG:∀ (w':World),w.heap.size≤w'.heap.size→∀ k,(k=b∨(k=w.heap.size∧k<w'.heap.size))→k<w'.heap.size∧((∃ c,m id=some (k,c))∨w.heap.size≤k):=by grind
   have main:∀ (w':World) (vs0:Array Value),w'.os=w.os→w'.tape=w.tape→w'.output=w.output→w.heap.size≤w'.heap.size→(∀ k,k<w.heap.size→k≠b→w'.heap[k]? = w.heap[k]?)→w'.heap[b]? = some (.cells vs0 e (0,0))→vs0.size=cap*t.size→vs0.toList.take row.length=row →
     (∀ k,F k→w'.heap[k]? = w.heap[k]?)∧Af w F m H fz w' (fun k=>F k∨(k=b∨(k=w.heap.size∧k<w'.heap.size))) m H (AY [id] fz):=by
    intro w' vs0 h1 h2 h3 h4 h5 h6 h7 h8
    have hcell:∀ k,F k→w'.heap[k]? = w.heap[k]? := fun k ha=>h5 _ (hi.lt _ ha) (by rintro h;exact hi.off id b cap hid hm (h▸ha))
    refine⟨hcell,ACi hi ho hun h1 h2 h3 h4 _ (hG w' h4) (fun b' c' h=>by grind) (fun k hk hne=>h5 k hk (by grind)) ?_⟩
    rw[hm]
    exact⟨hpos,vs0,row,h6,e2,e3,h7,BL (fun x _ cs hx=>hx.mono hcell (fun _ h=>.inl h) t) e5,h8⟩
   have hrr:=IJ e5 hrows;have hlen:(row++news).length=(xs.length+ys.length)*t.size:=by grind
   have fin:∀ (w':World) (g cap':Nat) (vs':Array Value),(∀ k,F k→w'.heap[k]? = w.heap[k]?)→(g=b∨(g=w.heap.size∧g<w'.heap.size))→w'.heap[g]? = some (.cells vs' e (0,0))→xs.length+ys.length≤cap'→vs'.toList.take (row++news).length=row++news →
     Rep w' (fun k=>F k∨(k=b∨(k=w.heap.size∧k<w'.heap.size))) m H (.data (.slice t) (xs++ys)) (.slice (some ⟨g,0,none⟩) (xs.length+ys.length) cap'):=by
    intro w' g cap' vs' hcell hg hgv hle htk
    exact Ahj hgv htk (BL (fun x _ cs hx=>hx.mono hcell (fun _ h=>.inl h) t) hrr) (by grind) (.inr hg) (by simp)
   cases A with
    |none=>
     have hy:ys=[]:=by grind
     subst hy;obtain⟨hc,hgo⟩:=main w vs rfl rfl rfl (Ap1 _) (fun _ _ _=>rfl) e1 e4 e6;have hn0:news=[]:=AqN (by grind);subst hn0;exact⟨_,w,_,G6 hu hi0 _ e2 none c,hgo,fin w b cap vs hc (.inl rfl) e1 (by omega) (by grind)⟩
    |some ad=>
     have hone:∀ u∈news,u.oneCell'=true:=fun u hu=>Ps (fun x cs (h:Dat w F t x cs)=>Dat.HS t h) hrows u hu;by_cases hroom:xs.length+ys.length≤cap;have hnl:news.length=ys.length*i.size:=by grind
     have hsum:xs.length*i.size+news.length≤vs.size:=by rw[hnl,e4,hsz,← Aq7];exact Aqj _ hroom
     have hr:=run_append_room (P:=P) w T ty e i hu hi0 b xs.length cap vs e1 ad ys.length c news hnl (hnews ad rfl) hone hroom hsum;have hrow:vs.toList.take (xs.length*i.size)=row:=by grind
     rw[hrow]at hr;obtain⟨hc,hgo⟩:=main (w.setRow b (row++news++vs.toList.drop (xs.length*i.size+news.length)).toArray) (row++news++vs.toList.drop (xs.length*i.size+news.length)).toArray rfl rfl rfl (by simp) (fun k _ hk=>setRow_other w b k _ hk) (setRow_heap w b vs (row++news++vs.toList.drop (xs.length*i.size+news.length)).toArray e _ e1) (by grind) (by simp)
     exact⟨_,_,_,hr,hgo,fin _ b cap _ hc (.inl rfl) (setRow_heap w b vs _ e _ e1) hroom (by grind)⟩;have hbytes:(xs.length+ys.length)*i.bytes≤140737488355328:=ArD (Ar8 hfit hby) (by omega);have holds:∀ j u,row[j]? = some u→w.cell? ((⟨b,0,none⟩:Addr).add j)=some u:=fun j u hj=>by
      rw[Addr.add_lit,Aqg];have hj':vs.toList[j]? = some u:=by grind
      rw[Aqo]at hj';simp[World.cell?,e1,hj']
     have hr:=run_append_grow (P:=P) w T ty e i z hu hi0 hz ⟨b,0,none⟩ xs.length cap row (by grind) holds ad ys.length c news (by grind) (hnews ad rfl) (by omega) (by omega) (growslice_fits (by omega) hbytes);obtain⟨hc,hgo⟩:=main (w.drew.alloc (.cells (row.toArray++news.toArray++Builtin.zeroCells z.cells (grownCap w (xs.length+ys.length) cap e-(xs.length+ys.length))) e)) vs rfl rfl rfl (by simp) (fun k hk _=>heap_alloc_old w.drew _ k hk) ((heap_alloc_old w.drew _ b hblt).trans e1) e4 e6;have hge:=grownCap_ge w (xs.length+ys.length) cap e;exact⟨_,_,_,hr,hgo,fin _ w.heap.size _ _ hc (.inr ⟨rfl,BW (heap_alloc_new w.drew _)⟩) (heap_alloc_new w.drew _) hge (by grind)⟩
end
end Go.Pev
end
section
namespace Go.Pev
open Go.RowKit
section
variable {P:Program}
theorem Amq{w:World}{F:Nat→Prop}{m:Mp}{H:List Ob}{fz:List Bool}(hi:HI w F m H fz){id:Nat}{T:TypeId}{tgt:Nat}{is:List Int}(ho:H[id]? = some (.prs T tgt is)){v:Value}(hv:Rep w F m H (.own id) v):
  ∃ A c,v = .slice A is.length c∧(is≠[]→A.isSome=true)∧∃ us,AT w F m H (Fv tgt is) us∧(∀ u∈us,u.oneCell'=true)∧∀ ad,A=some ad→∀ j u,us[j]? = some u→w.cell? (ad.add j)=some u:=by
 have hob:=hi.obj id _ ho;unfold Rep at hv;rw[ho]at hv;cases hm:m id with
  |none=>rw[hm]at hv hob;obtain⟨a,rfl⟩:=hv;have hob:is=[]:=hob;subst hob;exact⟨a,0,rfl,fun h=>absurd rfl h,[],by show AT w F m H [] [];unfold AT;rfl,(by simp),fun _ _ j u h=>by simp at h⟩
  |some p=>obtain⟨b,cap⟩:=p;rw[hm]at hv hob;simp only[A4]at hv;obtain⟨vs,us,e1,e2,e3,e4,e5,e6,e7⟩:=hob;refine⟨some ⟨b,0,none⟩,cap,hv,fun _=>rfl,us,e5,e6,fun ad h j u hu => ?_⟩;cases h;rw[CB,DJ e1];grind
theorem KK{w:World}{F:Nat→Prop}{m:Mp}{H:List Ob}{fz:List Bool}(hi:HI w F m H fz){slot:Nat}(hf:Aq H fz slot=true){T e ty:TypeId}{i:TypeInfo}{z:Value}(hu:P.underlying T=some (.slice e))
  (hi0:P.info? e=some i) (hz:i.zero=some z) (hzs:z.cells.size=1) (hsz:i.size=1) (hby:i.bytes≤1024) {tgt:Nat} {ys:List Int} (hfit:ys.length≤4294967296) (a:Option Addr)
  {A:Option Addr} {c:Nat} {news:List Value} (hA:ys≠[]→A.isSome=true) (hr:AT w F m H (Fv tgt ys) news) (hone:∀ u∈news,u.oneCell'=true) (hnews:∀ ad,A=some ad→∀ j u,news[j]? = some u→w.cell? (ad.add j)=some u) :
  ∃ v w' m',(Builtin.append_ #[T,T] ty #[.slice a 0 0,.slice A ys.length c]).run P w = .ok v w'∧Af w F m H fz w' F m' (H.set slot (.prs e tgt ys)) fz∧Rep w' F m' (H.set slot (.prs e tgt ys)) (.own slot) v:=by
 have hl:news.length=ys.length:=by rw[Ap hr,XV]
 obtain⟨v,w',hrun,h1,h2,h3,h4,h5,h6⟩:=JW (P:=P) (w:=w) (ty:=ty) hu hi0 hz (by omega) a (A:=A) (m:=ys.length) (c:=c) (news:=news) (by grind) (fun h=>hA (by grind)) hnews hfit hby;rcases h6 with⟨h0,rfl⟩|⟨cap',vs,rfl,q1,q2,q3,q4,q5⟩
 have hy:ys=[]:=AqN h0;subst hy;have hgw:=Af.grow hi h1 h2 h3 h4 h5;obtain⟨m',hg,hrep⟩:=AAg hgw.2 hf e tgt a;exact⟨_,w',m',hrun,hgw.trans hg,hrep⟩;obtain⟨m',hg,hrep⟩:=Qn hi hf q1 h1 h2 h3 h4 h5 q2 q3 (by grind) hr hone (by grind);grind
theorem VU{w:World}{F:Nat→Prop}{m:Mp}{H:List Ob}{fz:List Bool}(hi:HI w F m H fz){slot:Nat}(hf:Aq H fz slot=true){T e ty:TypeId}{i:TypeInfo}{z:Value}(hu:P.underlying T=some (.slice e))
  (hi0:P.info? e=some i) (hz:i.zero=some z) (hzs:z.cells.size=1) (hsz:i.size=1) (hby:i.bytes≤1024) {tgt id:Nat} {xs:List Int} (ho:H[id]? = some (.prs e tgt xs))
  {b cap:Nat} (hm:m id=some (b,cap)) {ys:List Int} (hfit:xs.length+ys.length≤4294967296)
  {A:Option Addr} {c:Nat} {news:List Value} (hA:ys≠[]→A.isSome=true) (hr:AT w F m H (Fv tgt ys) news) (hone:∀ u∈news,u.oneCell'=true) (hnews:∀ ad,A=some ad→∀ j u,news[j]? = some u→w.cell? (ad.add j)=some u) :
  ∃ v w' m',(Builtin.append_ #[T,T] ty #[.slice (some ⟨b,0,none⟩) xs.length cap,.slice A ys.length c]).run P w = .ok v w' ∧
   Af w F m H fz w' F m' ((H.set id .dead).set slot (.prs e tgt (xs++ys))) fz∧Rep w' F m' ((H.set id .dead).set slot (.prs e tgt (xs++ys))) (.own slot) v:=by
 have hl:news.length=ys.length:=by rw[Ap hr,XV]
 have hob:=hi.obj id _ ho;rw[hm]at hob;obtain⟨vs,us,e1,e2,e3,e4,e5,e6,e7⟩:=hob;have hul:us.length=xs.length:=by rw[Ap e5,XV]
 have hold:vs.toList.take (xs.length*i.size)=us:=by grind
 obtain⟨v,w',hrun,hgr⟩:=PI (P:=P) (w:=w) (ty:=ty) hu hi0 hz (by omega) (by omega) e1 (n:=xs.length) e2 e3 (by grind) (A:=A) (m:=ys.length) (c:=c) (news:=news) (by grind) (fun h=>hA (by grind)) hnews
  hone hfit hby
 rw[hold]at hgr;have hlen:(xs++ys).length=xs.length+ys.length:=Ap3 ..;have hr0:AT w F m H (Fv tgt (xs++ys)) (us++news):=by rw[Aei];exact Gx e5 hr
 have hone0:∀ u∈us++news,u.oneCell'=true:=fun u hu=>by grind
 have hlts:=Aj (BM hf).1;have hgs:((H.set id .dead).set slot (.prs e tgt (xs++ys)))[slot]? = some (.prs e tgt (xs++ys)):=Ax (by grind);have hnl:(us++news).length=xs.length+ys.length:=by grind
 have main:∀ (g cap':Nat) (vs':Array Value),(w.heap.size≤g∨g=b)→w'.heap[g]? = some (.cells vs' e (0,0))→xs.length+ys.length≤cap'→cap'≤maxLen→vs'.size=cap'→vs'.toList.take (xs.length+ys.length)=us++news →
   ∃ m',Af w F m H fz w' F m' ((H.set id .dead).set slot (.prs e tgt (xs++ys))) fz∧Rep w' F m' ((H.set id .dead).set slot (.prs e tgt (xs++ys))) (.own slot) (.slice (some ⟨g,0,none⟩) (xs.length+ys.length) cap'):=by
  intro g cap' vs' hg q1 q2 q3 q4 q5
  have:=Af.move (w':=w') hi (ACJ ho) hm hf (ob:=.prs e tgt (xs++ys)) trivial (b':=g) (c':=cap') hg.symm hgr.os hgr.tape hgr.output hgr.size (fun k hk hne=>hgr.keep k hk (fun b' h=>by grind))
   (fun hmono=>⟨vs',us++news,q1,by omega,q3,q4,AMl hmono hr0,hone0,by grind⟩)
  refine⟨_,this,?_⟩
  unfold Rep
  rw[hgs,Am,← hlen]
  rfl
 rcases hgr.res with⟨h0,rfl,rfl⟩|⟨g,cap',vs',rfl,q1,q2,q3,q4,q5,q6⟩
 grind;obtain⟨m',hg,hrep⟩:=main g cap' vs' (by grind) q1 q2 q3 (by grind) (by grind);grind
end
end Go.Pev
end
section
namespace Go.Pev
open Go.RowKit
section
variable {P:Program}
theorem ATI{w:World}{F:Nat→Prop}{m:Mp}{H:List Ob}{fz:List Bool}(hi:HI w F m H fz){T e ty:TypeId}{t:Ty}{i:TypeInfo}{z:Value}(hu:P.underlying T=some (.slice e))
  (hi0:P.info? e=some i) (hz:i.zero=some z) (hzs:z.cells.size=i.size) (hsz:i.size=t.size) (hpos:0<t.size) (hby:i.bytes≤1024) {id k ver:Nat} {T0:RK} {xs:List (List t.den)} (ho:H[id]? = some (.rows T0 e t xs ver none)) (hun:fz.getD id false=false)
  {v:Value} (hv:Rep w F m H (.rowp id k ver) v) {ys:List t.den} (hfit:(AJ xs k []).length+ys.length≤4294967296)
  {A:Option Addr} {c:Nat} {news:List Value} (hA:ys≠[]→A.isSome=true) (hrows:rows (Dat w F t) ys news) (hnews:∀ ad,A=some ad→∀ j u,news[j]? = some u→w.cell? (ad.add j)=some u) :
  ∃ v' w' m',(Builtin.append_ #[T,T] ty #[v,.slice A ys.length c]).run P w = .ok v' w'∧Af w F m H fz w' F m' (H.set id (.rows T0 e t (T0.put xs k (Ai (AJ xs k []) ys)) (ver+1) (some k))) fz ∧
   Rep w' F m' (H.set id (.rows T0 e t (T0.put xs k (Ai (AJ xs k []) ys)) (ver+1) (some k))) (.rowp id k (ver+1)) v':=by
 have hk:=fun(x:t.den) cs (h:Dat w F t x cs)=>Dat.length t h
 have hl:=A9 hk hrows
 unfold Rep at hv
 rw[ho]at hv
 obtain⟨_,_,h7⟩:=hv
 obtain⟨zs,l0,hzz,hnx,hrep,hob,hl0,hle⟩:∃ (zs:List t.den) (l0:Option (Nat×Nat)),AJ xs k []=zs∧(xs[k]? = some zs∨(T0.JG=false∧k=xs.length))∧A4 (some (.arr 0 t zs)) l0 v∧ObI w F m H (.arr e t zs) l0 ∧
   (∀ b c,l0=some (b,c)→owned H fz (.r id k)∧m (.r id k)=some (b,c))∧k≤xs.length:=by
  rcases h7 rfl with⟨zs,h1,h2⟩|⟨h0,h1,h2⟩
  ·exact⟨zs,m (.r id k),by unfold AJ;grind,.inl h1,h2,(hi.row id T0 e t xs ver none ho k zs h1).1,fun b c h=>⟨SD ho hun (Ht h1),h⟩,ArC (Ht h1)⟩
  ·refine⟨[],none,?_,.inr ⟨h0,h1⟩,⟨_,h2⟩,⟨hpos,rfl⟩,(fun b c h=>by cases h),Ars h1⟩
   unfold AJ
   grind
 rw[hzz]at hfit ⊢
 have hput:∀ y:List t.den,(T0.put xs k y)[k]? = some y∧(∀ k',k'≠k→(T0.put xs k y)[k']? = xs[k']?)∧(T0.JG=true→xs.length=(T0.put xs k y).length)∧(xs.length=(T0.put xs k y).length∨(T0.JG=false∧k=xs.length∧(T0.put xs k y).length=xs.length+1)):=by
  intro y
  have hlt:k<xs.length→((xs.set k y)[k]? = some y∧(∀ k',k'≠k→(xs.set k y)[k']? = xs[k']?)∧(T0.JG=true→xs.length=(xs.set k y).length)∧(xs.length=(xs.set k y).length∨(T0.JG=false∧k=xs.length∧(xs.set k y).length=xs.length+1))):=fun h=>
   ⟨List.getElem?_set_self h,fun k' hk'=>Aq4 (Aq2 hk'),fun _=>List.length_set.symm,.inl List.length_set.symm⟩
  cases T0 with
  |arr T=>exact hlt (by rcases hnx with h|⟨h,_⟩;exact Ht h;cases h)
  |map j ks=>
   simp only[RK.put,VG]
   grind
 have fin:∀ (w':World) (l:Option (Nat×Nat)) (v':Value),(∀ b c,l=some (b,c)→(∃ c0,l0=some (b,c0))∨w.heap.size≤b)→w'.os=w.os→w'.tape=w.tape→w'.output=w.output→w.heap.size≤w'.heap.size →
   (∀ b,b<w.heap.size→(∀ c,l0≠some (b,c))→w'.heap[b]? = w.heap[b]?)→((∀ {d:t.den} {cs:List Value},Dat w F t d cs→Dat w' F t d cs)→ObI w' F m H (.arr e t (zs++ys)) l)→A4 (some (.arr e t (zs++ys))) l v' →
   ∃ m',Af w F m H fz w' F m' (H.set id (.rows T0 e t (T0.put xs k (Ai zs ys)) (ver+1) (some k))) fz∧Rep w' F m' (H.set id (.rows T0 e t (T0.put xs k (Ai zs ys)) (ver+1) (some k))) (.rowp id k (ver+1)) v':=by
  intro w' l v' hl' h1 h2 h3 h4 h5 h6 h8
  obtain⟨p1,p2,p3,p4⟩:=hput (Ai zs ys)
  have hg:=Af.Aox hi ho hun l p1 p2 p3 (fun b cap _ h=>by
    rcases p4 with p4|⟨p4,p5,p6⟩
    ·rw[← p4];exact h.out (by grind)
    ·cases T0 with
     |arr T=>cases p4
     |map j ks=>
      obtain⟨ms,clock,e1,e2,e3,e4,_⟩:=h
      have e4:=e4.resolve_right fun h=>by cases h.1
      exact⟨ms,clock,e1,e2,e3,.inr ⟨by grind,by omega⟩,fun k' h=>by grind⟩)
   (fun ha hx=>AqN (by grind))
   (fun b c h=>(hl' b c h).imp (fun ⟨c0,h⟩=>⟨c0,hl0 b c0 h⟩) (fun h=>h)) h1 h2 h3 h4 (fun b hb hn=>h5 b hb fun c hc=>(hn c (hl0 b c hc).1 (hl0 b c hc).2)) h6
  refine⟨_,hg,?_⟩
  unfold Rep
  rw[Ax (Aj ho),Hi]
  exact⟨h8.one,Ap1 _,fun _=>.inl ⟨zs++ys,p1,h8⟩⟩
 cases hm:l0 with
 |none=>
  rw[hm]at hob hrep
  obtain⟨a,rfl⟩:=hrep
  obtain⟨_,hzn⟩:=hob
  simp only at hzn
  subst hzn
  obtain⟨v',w',hrun,h1,h2,h3,h4,h5,h6⟩:=JW (P:=P) (w:=w) (ty:=ty) hu hi0 hz hzs a (A:=A) (m:=ys.length) (c:=c) (news:=news) (by grind) (fun h=>hA (by grind)) hnews (by omega) hby
  rcases h6 with⟨h0,rfl⟩|⟨cap',vs,rfl,q1,q2,q3,q4,q5⟩
  ·have hy:ys=[]:=AqN h0
   subst hy
   obtain⟨m',hg,hr⟩:=fin w' none _ (fun b c h=>by cases h) h1 h2 h3 h4 (fun b hb _=>h5 b hb) (fun _=>⟨hpos,rfl⟩) ⟨a,rfl⟩
   grind
  ·obtain⟨m',hg,hr⟩:=fin w' (some (w.heap.size,cap')) _ (fun b c h=>by grind) h1 h2 h3 h4 (fun b hb _=>h5 b hb)
    (fun hd=>⟨hpos,vs,news,q1,q2,q3,by grind,BL (fun x _ cs hx=>hd hx) hrows,by grind⟩) rfl
   grind
 |some p=>
  obtain⟨b,cap⟩:=p
  rw[hm]at hob hrep
  obtain⟨_,vs,row,e1,e2,e3,e4,e5,e6⟩:=hob
  simp only[A4]at hrep
  subst hrep
  have hrl:=A9 hk e5
  obtain⟨v',w',hrun,hgr⟩:=PI (P:=P) (w:=w) (ty:=ty) hu hi0 hz hzs (by omega) e1 (n:=zs.length) e2 e3 (by grind) (A:=A) (m:=ys.length) (c:=c) (news:=news) (by grind) (fun h=>hA (by grind)) hnews
   (fun u hu=>Ps (fun x cs (h:Dat w F t x cs)=>Dat.HS t h) hrows u hu) hfit hby
  have hold:vs.toList.take (zs.length*i.size)=row:=by grind
  rw[hold]at hgr
  have hr0:=IJ e5 hrows
  have hlen:(row++news).length=(zs.length+ys.length)*t.size:=by grind
  have hkeep:∀ b',b'<w.heap.size→(∀ c,l0≠some (b',c))→w'.heap[b']? = w.heap[b']? := fun b' hb' hn=>hgr.keep b' hb' fun b0 h=>by
   grind
  rcases hgr.res with⟨h0,rfl,rfl⟩|⟨g,cap',vs',rfl,q1,q2,q3,q4,q5,q6⟩
  ·have hy:ys=[]:=AqN h0
   subst hy
   obtain⟨m',hg,hr⟩:=fin w' (some (b,cap)) _ (fun b c h=>by grind) hgr.os hgr.tape hgr.output hgr.size hkeep
    (fun _=>⟨hpos,vs,row,e1,by grind,e3,e4,by grind,e6⟩) (by rw[Aqv];rfl)
   grind
  ·obtain⟨m',hg,hr⟩:=fin w' (some (g,cap')) (.slice (some ⟨g,0,none⟩) (zs.length+ys.length) cap') (fun b' c h=>by
     grind) hgr.os hgr.tape hgr.output hgr.size hkeep
    (fun hd=>⟨hpos,vs',row++news,q1,by grind,q3,by grind,BL (fun x _ cs hx=>hd hx) hr0,by grind⟩) (by simp only[A4,Ap3])
   grind
end
end Go.Pev
end
section
namespace Go.Pev
open Go.RowKit
section
variable {P:Program} {E:Env}
theorem AGr(args:Array Operand)(ts:Array TypeId):Claim P E (.call { callee:=.builtin .append,args:=args,argTypes:=ts }):=by
 intro R ty ρ H fz slot k r h;simp only[evalOp,C1]at h;split at h;rename_i s x T T' ha hts;obtain rfl:=AmJ ha;obtain rfl:=AmJ hts;split at h;rename_i e t hsl hTT;simp only[Aps]at hTT;subst hTT;split at h;rename_i ys fr zz hys hz hby;obtain⟨hu,hty0,hpos⟩:=By hsl;obtain⟨t',cs'⟩:=zz;obtain⟨hty',hcs',i,z,hi0,hz0,hok,hsz,hza⟩:=Bl hz;subst hcs';have:t'=t:=by grind
 subst this;have hzs:z.cells.size=i.size:=by have hzd:=Be (w:=default) (F:=fun _=>False) t' _ hok;rw[hsz,← AqG];exact Dat.length t' hzd
 have hby':i.bytes≤1024:=by grind
 split at h;rename_i et hs;split at h;rename_i hfit;split at h;rename_i hf;refine⟨_,_,h,fun R' k'=>by simp only[evalOp,C1,hsl,Apy,hys,hz,hby,hs,hfit,hf],A0 fun w F m ρc o hop hty hi hr => ?_⟩;have hrs:=hr s;rw[hs]at hrs;unfold Rep at hrs;obtain⟨A,c,q1,q2,q3,news,q4,q5⟩:=Dx hi hys (hr x);obtain⟨v,w',m',hrun,hg,hrep⟩:=FY (P:=P) (ty:=o.type) hi hf hu hi0 hz0 hzs hsz hpos hby' (by have:(ys.length:Int)≤4294967296:=(FN _).1 hfit;omega) none (c:=c) q3 q4 q5;exact⟨v,w',F,m',B6 hop hrs q1 hrun,hg,hrep⟩;grind;grind;rename_i t2 xs hs;split at h;rename_i xs' hc hne;split at h;rename_i hfit;split at h;rename_i hf;refine⟨_,_,h,fun R' k'=>by simp only[evalOp,C1,hsl,Apy,hys,hz,hby,hs,hc,hne,hfit,hf],A0 fun w F m ρc o hop hty hi hr => ?_⟩;obtain⟨et,hx⟩:=CU hc;subst et;simp only at hx;subst hx;have hrs:=hr s;rw[hs]at hrs;obtain⟨A,c,q1,q2,q3,news,q4,q5⟩:=Dx hi hys (hr x);have hfit':xs.length+ys.length≤4294967296:=by have:((xs.length:Int)+(ys.length:Int))≤4294967296:=(FN _).1 hfit;omega
 obtain⟨v,w',m',hrun,hg,hrep⟩:=AMb (P:=P) (ty:=o.type) hi hf hu hi0 hz0 hzs hsz hpos hby' hfit' (by grind) hrs (c:=c) q3 q4 q5;exact⟨v,w',F,m',B6 hop rfl q1 hrun,hg,hrep⟩;grind;grind;grind;rename_i id hs;split at h;rename_i e' t2 xs ho;split at h;rename_i hue;split at h;rename_i xs' hc;split at h;rename_i hfit;split at h;rename_i hkp;refine⟨_,_,h,fun R' k'=>by simp only[evalOp,C1,hsl,Apy,hys,hz,hby,hs,ho,hue,hc,hfit,hkp],A0 fun w F m ρc o hop hty hi hr => ?_⟩;simp only[Apt,Aps]at hue;obtain⟨hun,rfl⟩:=hue;obtain⟨et,hx⟩:=CU hc;subst et;simp only at hx;subst hx;have hrs:=hr s;rw[hs]at hrs;obtain⟨A,c,q1,q2,q3,news,q4,q5⟩:=Dx hi hys (hr x);have hfit':xs.length+ys.length≤4294967296:=by have:((xs.length:Int)+(ys.length:Int))≤4294967296:=(FN _).1 hfit;omega
 obtain⟨v,w',F',hrun,hg,hrep⟩:=AMa (P:=P) (ty:=o.type) hi hu hi0 hz0 hzs hsz hpos hby' ho hun hfit' (c:=c) q3 q4 q5 hrs;exact⟨v,w',F',m,B6 hop rfl q1 hrun,hg,hrep⟩;rename_i hkp;split at h;rename_i hf;refine⟨_,_,h,fun R' k'=>by simp only[evalOp,C1,hsl,Apy,hys,hz,hby,hs,ho,hue,hc,hfit,hkp,hf],A0 fun w F m ρc o hop hty hi hr => ?_⟩;simp only[Apt,Aps]at hue;obtain⟨hun,rfl⟩:=hue;obtain⟨et,hx⟩:=CU hc;subst et;simp only at hx;subst hx;have hrs:=hr s;rw[hs]at hrs;unfold Rep at hrs;rw[ho]at hrs;obtain⟨A,c,q1,q2,q3,news,q4,q5⟩:=Dx hi hys (hr x);have hfit':xs.length+ys.length≤4294967296:=by have:((xs.length:Int)+(ys.length:Int))≤4294967296:=(FN _).1 hfit;omega
 have hsn:=AGD hf ho;cases hm:m id with
  |none=>obtain⟨_,hob⟩:=hi.obj id _ ho;rw[hm]at hrs hob;obtain⟨a,e1⟩:=hrs;simp only at hob;subst hob;have hkill:=Af.kill hi (CO ho hun);obtain⟨v,w',m',hrun,hg,hrep⟩:=FY (P:=P) (ty:=o.type) hkill.2 (K6 hf hsn) hu hi0 hz0 hzs hsz hpos hby' (by omega) a (c:=c) q3 q4 q5;exact⟨v,w',F,m',B6 hop e1 q1 hrun,hkill.trans hg,hrep⟩
  |some p=>obtain⟨b,cap⟩:=p;rw[hm]at hrs;simp only[A4]at hrs;obtain⟨v,w',m',hrun,hg,hrep⟩:=Tx (P:=P) (ty:=o.type) hi hf hu hi0 hz0 hzs hsz hpos hby' ho hun hm (Ap1 _) hfit' (c:=c) q3 q4 q5;rw[ArZ]at hg hrep;exact⟨v,w',F,m',B6 hop hrs q1 hrun,hg,hrep⟩
 grind;grind;grind;grind;grind;rename_i id kx ver hs;split at h;rename_i T0 e' t2 xs ver' ho;split at h;rename_i hue;split at h;rename_i xs' hc;split at h;rename_i hfit;refine⟨_,_,h,fun R' k'=>by simp only[evalOp,C1,hsl,Apy,hys,hz,hby,hs,ho,hue,hc,hfit],A0 fun w F m ρc o hop hty hi hr => ?_⟩;simp only[Apt,Aps]at hue;obtain⟨hun,rfl,rfl⟩:=hue;obtain⟨et,hx⟩:=CU hc;cases et;simp only at hx;subst hx;have hun':fz.getD id false=false:=by unfold AZ at hun;grind
 have hrs:=hr s;rw[hs]at hrs;obtain⟨A,c,q1,q2,q3,news,q4,q5⟩:=Dx hi hys (hr x);have hfit':(AJ xs kx []).length+ys.length≤4294967296:=by have:(((AJ xs kx []).length:Int)+(ys.length:Int))≤4294967296:=(FN _).1 hfit;omega
 obtain⟨v,w',m',hrun,hg,hrep⟩:=ATI (P:=P) (ty:=o.type) hi hu hi0 hz0 hzs hsz hpos hby' ho hun' hrs hfit' (c:=c) q3 q4 q5;exact⟨v,w',F,m',B6 hop rfl q1 hrun,hg,hrep⟩;grind;grind;grind;grind;rename_i id n hs;split at h;rename_i e' t2 xs ho;split at h;rename_i hue;split at h;rename_i xs' hc;split at h;rename_i hfit;split at h;rename_i hf;refine⟨_,_,h,fun R' k'=>by simp only[evalOp,C1,hsl,Apy,hys,hz,hby,hs,ho,hue,hc,hfit,hf],A0 fun w F m ρc o hop hty hi hr => ?_⟩;simp only[Apt,Aps]at hue;obtain⟨hun,rfl⟩:=hue;obtain⟨et,hx⟩:=CU hc;subst et;simp only at hx;subst hx;have hrs:=hr s;rw[hs]at hrs;unfold Rep at hrs;rw[ho]at hrs;obtain⟨hle,hrs⟩:=hrs;obtain⟨A,c,q1,q2,q3,news,q4,q5⟩:=Dx hi hys (hr x);have hfit':n+ys.length≤4294967296:=by have:((n:Int)+(ys.length:Int))≤4294967296:=(FN _).1 hfit;omega
 have hsn:=AGD hf ho;obtain⟨_,hob⟩:=hi.obj id _ ho
 have zero:∀ a,n=0→ρc s = .slice a 0 0→∃ u w' F' m',(execOp ρc o).run P w = .ok (.value u) w'∧Af w F m H fz w' F' m' ((H.set id .dead).set slot (.arr e _ (Ai (CL n xs) ys))) fz ∧
   Rep w' F' m' ((H.set id .dead).set slot (.arr e _ (Ai (CL n xs) ys))) (.own slot) u:=by
  intro a h0 e1
  subst h0
  have hkill:=Af.kill hi (CO ho hun)
  obtain⟨v,w',m',hrun,hg,hrep⟩:=FY (P:=P) (ty:=o.type) hkill.2 (K6 hf hsn) hu hi0 hz0 hzs hsz hpos hby' (by omega) a (c:=c) q3 q4 q5
  exact⟨v,w',F,m',B6 hop e1 q1 hrun,hkill.trans hg,hrep⟩
 cases hm:m id with
  |none=>
   rw[hm]at hrs hob;obtain⟨a,e1⟩:=hrs;simp only at hob;subst hob;have hn:n=0:=by grind
   exact zero a hn (by grind)
  |some p=>obtain⟨b,cap⟩:=p;rw[hm]at hrs hob;obtain⟨a,e1,e2⟩:=hrs;obtain⟨vs,row,o1,o2,_⟩:=hob;rcases ArR cap with hcap|hcap;exact zero a (by omega) (by grind);have ha:=e2 hcap;rw[Ar7]at ha;subst ha;obtain⟨v,w',m',hrun,hg,hrep⟩:=Tx (P:=P) (ty:=o.type) hi hf hu hi0 hz0 hzs hsz hpos hby' ho hun hm (n:=n) (by omega) hfit' (c:=c) q3 q4 q5;exact⟨v,w',F,m',B6 hop e1 q1 hrun,hg,hrep⟩
 grind;grind;grind;grind;grind;grind;grind;rename_i e t hsl hTT;split at h;rename_i et j n zz kk hs hx hz hk hby;split at h;rename_i hfit;split at h;rename_i hf;refine⟨_,_,h,fun R' k'=>by simp only[evalOp,C1,hsl,hTT,hs,hx,hz,hk,hby,hfit,hf],A0 fun w F m ρc o hop hty hi hr => ?_⟩;obtain⟨hu,hty0,hpos⟩:=By hsl;obtain⟨t',cs'⟩:=zz;obtain⟨hty',hcs',i,z,hi0,hz0,hok,hsz,hza⟩:=Bl hz;subst hcs';have:t'=t:=by grind
 subst this;rw[Hy]at hfit;obtain⟨n',rfl⟩:=Ap7 hfit.1;have hrs:=hr s;rw[hs]at hrs;unfold Rep at hrs;have e2:=A1 (hx▸hr x);have hby':i.bytes≤1024:=by grind
 obtain⟨v,w',m',hrun,hg,hrep⟩:=AMZ (P:=P) (ty:=o.type) hi hf hu hi0 hz0 hok hsz hpos hby' (Gp hk) (kx:=j) (n:=n') (by omega);exact⟨v,w',F,m',AGK hop hrs e2 hrun,hg,hrep⟩;grind;grind;grind;rename_i hsl hTT;simp only[Aps]at hTT;subst hTT;split at h;rename_i e ix hce hx;split at h;rename_i e1 tgt ys hox;split at h;rename_i he;simp only[Aps]at he;subst he;obtain⟨hu,ii,z,hi0,hz0,hsz,hzs,hby⟩:=Tu hce;split at h;rename_i et hs;split at h;rename_i hfit;split at h;rename_i hf;refine⟨_,_,h,fun R' k'=>by simp only[evalOp,C1,hsl,Apy,hce,hx,hox,hs,hfit,hf],A0 fun w F m ρc o hop hty hi hr => ?_⟩;have hrs:=hr s;rw[hs]at hrs;unfold Rep at hrs;obtain⟨A,c,q1,q2,news,q3,q4,q5⟩:=Amq hi hox (hx▸hr x);obtain⟨v,w',m',hrun,hg,hrep⟩:=KK (P:=P) (ty:=o.type) hi hf hu hi0 hz0 hzs hsz hby (by have:(ys.length:Int)≤4294967296:=(FN _).1 hfit;omega) none (c:=c) q2 q3 q4 q5;exact⟨v,w',F,m',B6 hop hrs q1 hrun,hg,hrep⟩;grind;grind;rename_i id hs;split at h;rename_i e2 tgt2 xs ho;split at h;rename_i hue;split at h;rename_i hfit;split at h;rename_i hf;refine⟨_,_,h,fun R' k'=>by simp only[evalOp,C1,hsl,Apy,hce,hx,hox,hs,ho,hue,hfit,hf],A0 fun w F m ρc o hop hty hi hr => ?_⟩;simp only[Apt,Aps]at hue;obtain⟨rfl,rfl⟩:=hue;have hrs:=hr s;rw[hs]at hrs;unfold Rep at hrs;rw[ho]at hrs;obtain⟨A,c,q1,q2,news,q3,q4,q5⟩:=Amq hi hox (hx▸hr x);have hfit':xs.length+ys.length≤4294967296:=by have:((xs.length:Int)+(ys.length:Int))≤4294967296:=(FN _).1 hfit;omega
 have hsn:=ALN hf ho;cases hm:m id with
  |none=>have hob:=hi.obj id _ ho;rw[hm]at hrs hob;obtain⟨a,e1⟩:=hrs;have hob:xs=[]:=hob;subst hob;have hkill:=Af.kill hi (ACJ ho);obtain⟨v,w',m',hrun,hg,hrep⟩:=KK (P:=P) (ty:=o.type) hkill.2 (K6 hf hsn) hu hi0 hz0 hzs hsz hby (by omega) a (c:=c) q2 (hkill.1.Apg hi q3) q4 q5;exact⟨v,w',F,m',B6 hop e1 q1 hrun,hkill.trans hg,hrep⟩
  |some p=>obtain⟨b,cap⟩:=p;rw[hm]at hrs;simp only[A4]at hrs;obtain⟨v,w',m',hrun,hg,hrep⟩:=VU (P:=P) (ty:=o.type) hi hf hu hi0 hz0 hzs hsz hby ho hm hfit' (c:=c) q2 q3 q4 q5;exact⟨v,w',F,m',B6 hop hrs q1 hrun,hg,hrep⟩
 grind;grind;grind;grind;grind;grind;grind;grind;grind;grind
end
end Go.Pev
end
section
namespace Go.Pev
open Go.RowKit
section
variable {P:Program} {E:Env}
theorem Abv(args:Array Operand)(ts:Array TypeId):Claim P E (.call { callee:=.builtin .cap,args:=args,argTypes:=ts }):=by intro R ty ρ H fz slot k r h;simp only[evalOp,AV4]at h;split at h;rename_i x T ha hts;obtain rfl:=AcJ ha;obtain rfl:=AcJ hts;split at h;rename_i e et hu hx;refine⟨_,_,h,fun R' k'=>by simp only[evalOp,AV4,hu,hx],AS fun w F m ρc o hop hty hi hr=>⟨.int .i64 0,?_,Ar _ _⟩⟩;have hrx:=hr x;rw[hx]at hrx;unfold Rep at hrx;simp[execOp,hop,resolve,invoke,builtin,hrx,Builtin.cap_,run_underlying hu,goInt];grind;grind
theorem Abs(args:Array Operand)(ts:Array TypeId):Claim P E (.call { callee:=.builtin .min,args:=args,argTypes:=ts }):=by intro R ty ρ H fz slot k r h;simp only[evalOp,AV2]at h;split at h;rename_i x y ha;obtain rfl:=AmJ ha;split at h;rename_i j a j' b hx hy;refine⟨_,_,h,fun R' k'=>by simp only[evalOp,AV2,hx,hy],AS fun w F m ρc o hop hty hi hr=>⟨.int j (Bs a b),?_,Ar _ _⟩⟩;have e1:=A1 (hx▸hr x);have e2:=A1 (hy▸hr y);simp[execOp,hop,resolve,invoke,builtin,e1,e2,run_min_int2,Bs];grind;grind
theorem Z8{w:World}(ts:Array TypeId)(t:TypeId)(k k':IntKind)(x y:Int):(Builtin.max_ ts t #[.int k x,.int k' y]).run P w = .ok (.int k (if y > x then y else x)) w:=by simp[Builtin.max_,Builtin.max2]
theorem Abt(args:Array Operand)(ts:Array TypeId):Claim P E (.call { callee:=.builtin .max,args:=args,argTypes:=ts }):=by intro R ty ρ H fz slot k r h;simp only[evalOp,AV3]at h;split at h;rename_i x y ha;obtain rfl:=AmJ ha;split at h;rename_i j a j' b hx hy;refine⟨_,_,h,fun R' k'=>by simp only[evalOp,AV3,hx,hy],AS fun w F m ρc o hop hty hi hr=>⟨.int j (imax a b),?_,Ar _ _⟩⟩;have e1:=A1 (hx▸hr x);have e2:=A1 (hy▸hr y);simp[execOp,hop,resolve,invoke,builtin,e1,e2,Z8,imax];grind;grind
theorem Lt{H:List Ob}{i:Nat}{o:Ob}(h:H[i]? = some o):H.set i o=H:=by apply Ark;grind
theorem Yj{α:Type}{off n:Nat}{z:α}{xs:List α}(h:off+n≤xs.length):(C3 off n z xs).length=xs.length:=by simp only[C3,Ap3,Aqn,ArB,Aq3];omega
theorem ALt{α:Type}(off:Nat)(z:α)(xs:List α):C3 off 0 z xs=xs:=by simp[C3]
theorem ADJ{w:World}{F:Nat→Prop}{m:Mp}{H:List Ob}{fz:List Bool}(hi:HI w F m H fz){id:Nat}{T:TypeId}{t:Ty}{xs:List t.den}(ho:H[id]? = some (.arr T t xs))(hf:AZ fz id=true)
  {b cap:Nat} (hm:m id=some (b,cap)) {off n:Nat} (hle:off+n≤xs.length) {z:List Value} (hz:Dat w F t t.zero z) (h1:∀ u∈z,u.oneCell'=true) {zs:Array Value} (hzs:zs.toList=(List.replicate n z).flatten) :
  ∃ w',(storeCells ⟨b,off*t.size,none⟩ zs.toList).run P w = .ok () w'∧Af w F m H fz w' F m (H.set id (.arr T t (C3 off n t.zero xs))) fz:=by
 have hob:=hi.obj id _ ho;obtain⟨h0,hob⟩:=hob;rw[hm]at hob;obtain⟨vs,row,e1,e2,e3,e4,e7,e8⟩:=hob;have hk:=fun(x:t.den) cs (h:Dat w F t x cs)=>Dat.length t h;have hlen:=A9 hk e7;have hrz:=E6 (w:=w) (F:=F) hz n;have hdl:=A9 hk hrz;rw[ArB,← hzs]at hdl;have hle1:off*t.size+n*t.size≤xs.length*t.size:=by have:=Aqj t.size hle;grind
 have hle2:xs.length*t.size≤cap*t.size:=Aqj _ e2;have hvl:vs.toList.length=cap*t.size:=by omega
 have hst:=run_storeCells_at P b (off*t.size) T zs.toList 0 vs w e1 (by omega) (by simp_all)
 simp only[Arb,hdl]at hst;obtain⟨r1,r2,r3,r4,r5⟩:=Gj (w:=w) (b:=b) (cs:=(vs.toList.take (off*t.size)++zs.toList++vs.toList.drop (off*t.size+n*t.size)).toArray);refine⟨_,hst,?_⟩;refine Af.set hi (CO ho hf) hm ho ⟨rfl,(Yj hle).symm⟩ r1 r2 r3 r4 r5 fun hmono => ?_;refine⟨h0,?_⟩;rw[hm];refine⟨_,row.take (off*t.size)++(zs.toList++row.drop (off*t.size+n*t.size)),setRow_heap w b vs _ T _ e1,by rw[Yj hle];exact e2,e3,?_,?_,?_⟩;grind
 have hcell:∀ k,F k→(w.setRow b (vs.toList.take (off*t.size)++zs.toList++vs.toList.drop (off*t.size+n*t.size)).toArray).heap[k]? = w.heap[k]? := fun k ha=>
  Gj.2.2.2.2 k (by rintro rfl;exact hi.off id _ cap (CO ho hf) hm ha)
 refine BL (R:=Dat w F t) (fun x _ cs hx=>hx.mono hcell (fun _ h=>h) t) ?_;have:=Hn hk (off+n) e7;rw[Aq7]at this;exact IJ (D5 hk off e7) (IJ (by grind) this)
 ·have hrl:(row.take (off*t.size)++(zs.toList++row.drop (off*t.size+n*t.size))).length=row.length:=by grind
  rw[hrl];show List.take row.length (vs.toList.take (off*t.size)++zs.toList++vs.toList.drop (off*t.size+n*t.size))=_;have h1:row.take (off*t.size)=vs.toList.take (off*t.size):=by rw[← e8,AsV,Aqw (by omega)]
  have h2:row.drop (off*t.size+n*t.size)=(vs.toList.drop (off*t.size+n*t.size)).take (row.length-(off*t.size+n*t.size)):=by
   conv=>lhs;rw[← e8]
   rw[List.drop_take]
  grind
theorem Ii{w w':World}{ρc:Operand→Value}{o:Oper}{T:TypeId}{x:Operand}{v:Value}(hop:o.op = .call { callee:=.builtin .clear,args:=#[x],argTypes:=#[T] })(e1:ρc x=v)
  (hrun:(Builtin.clear_ #[T] o.type #[v]).run P w = .ok (.tuple #[]) w'):(execOp ρc o).run P w = .ok (.value (.tuple #[])) w':=by simp[execOp,hop,resolve,invoke,builtin,e1,hrun]
theorem IH{w:World}{T e ty:TypeId}(hu:P.underlying T=some (.slice e))(a:Option Addr)(c:Nat):(Builtin.clear_ #[T] ty #[.slice a 0 c]).run P w = .ok (.tuple #[]) w:=by cases a<;>simp[Builtin.clear_,run_underlying hu]
theorem Lx{w w':World}{T e ty:TypeId}(hu:P.underlying T=some (.slice e)){i:TypeInfo}{z:Value}(hi0:P.info? e=some i)(hz:i.zero=some z)(a:Addr){n:Nat}(hn:0<n)(c:Nat)
  (h:(storeCells a (Builtin.zeroCells z.cells n).toList).run P w = .ok () w'):(Builtin.clear_ #[T] ty #[.slice (some a) n c]).run P w = .ok (.tuple #[]) w':=by
 obtain⟨m,rfl⟩:∃ m,n=m+1:=⟨n-1,by omega⟩
 simp[Builtin.clear_,run_underlying hu,BO hi0 hz,h]
theorem AWH{w:World}{F:Nat→Prop}{t:Ty}{d:t.den}{z:List Value}(h:Dat w F t d z):∀ u∈z,u.oneCell'=true:=fun u hu=>Dat.HS t h u hu
theorem AMD(args:Array Operand)(ts:Array TypeId):Claim P E (.call { callee:=.builtin .clear,args:=args,argTypes:=ts }):=by
 intro R ty ρ H fz slot k r h;simp only[evalOp,HZ]at h;split at h;rename_i x T ha hts;obtain rfl:=AcJ ha;obtain rfl:=AcJ hts;split at h;rename_i e t hsl;split at h;rename_i zz hz;obtain⟨hu,hty0,hpos⟩:=By hsl;obtain⟨t',cs'⟩:=zz;obtain⟨hty',hcs',i,z,hi0,hz0,hok,hsz,hza⟩:=Bl hz;subst hcs';have:t'=t:=by grind
 subst this;have hcells:∀ k,(Builtin.zeroCells z.cells k).toList=(List.replicate k z.cells.toList).flatten:=Cy z.cells;split at h;rename_i et hx;refine⟨_,_,h,fun R' k'=>by simp only[evalOp,HZ,hsl,hz,hx],A0 fun w F m ρc o hop hty hi hr => ?_⟩;have hrx:=hr x;rw[hx]at hrx;unfold Rep at hrx;exact⟨_,w,F,m,Ii hop hrx (IH hu _ _),Af.refl hi,by unfold Rep;trivial⟩;rename_i id hx;split at h;rename_i e' t2 xs ho;split at h;rename_i hun;refine⟨_,_,h,fun R' k'=>by simp only[evalOp,HZ,hsl,hz,hx,ho,hun],A0 fun w F m ρc o hop hty hi hr => ?_⟩;simp only[Apt,Aps]at hun;obtain⟨hun,ht⟩:=hun;subst ht;have hzd:=Be (w:=w) (F:=F) t' _ hok;have hrx:=hr x;rw[hx]at hrx;unfold Rep at hrx;rw[ho]at hrx;obtain⟨_,hob⟩:=hi.obj id _ ho
 have none_:xs=[]→∀ a c,ρc x = .slice a 0 c→∃ u w' F' m',(execOp ρc o).run P w = .ok (.value u) w'∧Af w F m H fz w' F' m' (CH { objs:=[(id,.arr e' t' (C3 0 xs.length t'.zero xs))] } H) (EY { objs:=[(id,.arr e' t' (C3 0 xs.length t'.zero xs))] } fz) ∧
   Rep w' F' m' (CH { objs:=[(id,.arr e' t' (C3 0 xs.length t'.zero xs))] } H) .CA u:=by
  intro hxs a c e1
  refine⟨_,w,F,m,Ii hop e1 (IH hu _ _),?_,by unfold Rep;trivial⟩
  have:C3 0 xs.length t'.zero xs=xs:=by rw[hxs];rfl
  rw[this]
  have hs:CH { objs:=[(id,.arr e' t' xs)] } H=H:=Lt ho
  rw[hs]
  exact Af.refl hi
 cases hm:m id with
  |none=>rw[hm]at hrx hob;obtain⟨a,e1⟩:=hrx;grind
  |some p=>obtain⟨b,cap⟩:=p;rw[hm]at hrx;simp only[A4]at hrx;rcases ArR xs.length with hl|hl;grind;obtain⟨w',hst,hg⟩:=ADJ (P:=P) hi ho hun hm (off:=0) (n:=xs.length) (by omega) hzd (AWH hzd) (hcells xs.length);rw[Ar7]at hst;exact⟨_,w',F,m,Ii hop hrx (Lx hu hi0 hz0 _ hl _ hst),hg,by unfold Rep;trivial⟩
 grind;grind;rename_i id off n hx;split at h;rename_i e' t2 xs ho;split at h;rename_i hun;refine⟨_,_,h,fun R' k'=>by simp only[evalOp,HZ,hsl,hz,hx,ho,hun],A0 fun w F m ρc o hop hty hi hr => ?_⟩;simp only[Apt,Aps]at hun;obtain⟨hun,ht⟩:=hun;subst ht;have hzd:=Be (w:=w) (F:=F) t' _ hok;have hrx:=hr x;rw[hx]at hrx;unfold Rep at hrx;rw[ho]at hrx;obtain⟨hle,hrx⟩:=hrx;obtain⟨_,hob⟩:=hi.obj id _ ho
 have none_:n=0→∀ a c,ρc x = .slice a n c→∃ u w' F' m',(execOp ρc o).run P w = .ok (.value u) w'∧Af w F m H fz w' F' m' (CH { objs:=[(id,.arr e' t' (C3 off n t'.zero xs))] } H) (EY { objs:=[(id,.arr e' t' (C3 off n t'.zero xs))] } fz) ∧
   Rep w' F' m' (CH { objs:=[(id,.arr e' t' (C3 off n t'.zero xs))] } H) .CA u:=by
  intro hxs a c e1
  subst hxs
  refine⟨_,w,F,m,Ii hop e1 (IH hu _ _),?_,by unfold Rep;trivial⟩
  rw[ALt]
  have hs:CH { objs:=[(id,.arr e' t' xs)] } H=H:=Lt ho
  rw[hs]
  exact Af.refl hi
 cases hm:m id with
  |none=>grind
  |some p=>obtain⟨b,cap⟩:=p;rw[hm]at hrx hob;obtain⟨vs,row,o1,o2,_⟩:=hob;obtain⟨a,e1,e2⟩:=hrx;rcases ArR n with hl|hl;grind;have ha:=e2 (by omega);subst ha;obtain⟨w',hst,hg⟩:=ADJ (P:=P) hi ho hun hm (off:=off) (n:=n) hle hzd (AWH hzd) (hcells n);exact⟨_,w',F,m,Ii hop e1 (Lx hu hi0 hz0 _ hl _ hst),hg,by unfold Rep;trivial⟩
 grind;grind;grind;grind;grind;grind
end
end Go.Pev
end
section
namespace Go.Pev
open Go.RowKit
section
variable {P:Program}
def Cz:(t:Ty)→t.den→List Value
 |.unit,_=>[]
 |.bool,b=>[.bool b]
 |.int k,n=>[.int k n]
 |.prod a b,d=>Cz a d.1++Cz b d.2
 |.slice _,_=>[]
 |.arr _ _,_=>[]
 |.nul _,_=>[]
 |.mapi _ _,_=>[]
def CG(t:Ty)(d:t.den):Value:=match t,d with
 |.int k,n=>.int k n
 |t,d=>.agg (Cz t d).toArray
structure AcQ(P:Program)(kt:TypeId)(t:Ty):Prop where
 rep:∀ (w:World) (F:Nat→Prop) (d:t.den) (v:Value),Bn w F t d v↔v=CG t d
 check:∀ (w:World) (b:Bool) (d:t.den),(Instr.checkKey b 10000 kt (CG t d)).run P w = .ok () w
 stays:∀ (w:World) (d:t.den),(Instr.keyThatStays (CG t d) (CG t d)).run P w = .ok (CG t d) w
 find:∀ (w:World) (F:Nat→Prop) (b:Ty) (key:t.den) (es:List (t.den×b.den)) (ms:List MapEntry),Iy w F t b es ms →
  (@G7 _ _ (decDen t) es key=none∧@AR _ _ (decDen t) es key=none∧(Instr.findKey kt (CG t key) ms).run P w = .ok none w) ∨
  (∃ x n me,@G7 _ _ (decDen t) es key=some n∧@AR _ _ (decDen t) es key=some x∧(Instr.findKey kt (CG t key) ms).run P w = .ok (some (n,me.val)) w∧ms[n]? = some me∧Bn w F b x me.val∧me.key=CG t key)
theorem AcQ.store{kt:TypeId}{t:Ty}(hK:AcQ P kt t){w:World}{F:Nat→Prop}{b:Ty}(key:t.den)(val:b.den)(v:Value)(hv:Bn w F b val v):∀ {es:List (t.den×b.den)} {ms:List MapEntry},Iy w F t b es ms →
  (∀ clock,@G7 _ _ (decDen t) es key=none→Iy w F t b (@Ae _ _ (decDen t) es key val) (ms++[{ key:=CG t key,val:=v,born:=clock }])) ∧
  (∀ n,@G7 _ _ (decDen t) es key=some n→Iy w F t b (@Ae _ _ (decDen t) es key val) (ms.modify n fun e=>{ e with key:=CG t key,val:=v })):=by
 haveI:=decDen t;intro es;induction es with
  |nil=>rintro ms rfl;exact⟨fun clock _=>⟨_,[],rfl,⟨(hK.rep w F key _).2 rfl,hv⟩,rfl⟩,fun n h=>by simp[G7]at h⟩
  |cons e es ih=>rintro ms ⟨me0,ms',rfl,⟨h1,h2⟩,h3⟩;obtain⟨a,x⟩:=e;obtain⟨ih1,ih2⟩:=ih h3;by_cases hak:a=key;subst hak;refine⟨fun clock h=>by simp[G7]at h,fun n h => ?_⟩;simp only[G7,AqP,Apq]at h;subst h;simp only[Ae,AqP,List.modify_zero_cons];exact⟨_,ms',rfl,⟨(hK.rep w F a _).2 rfl,hv⟩,h3⟩;simp only[Ae,hak,AqB,G7];refine⟨fun clock h => ?_,fun n h => ?_⟩;rw[Option.map_eq_none_iff]at h;exact⟨me0,_,rfl,⟨h1,h2⟩,ih1 clock h⟩;rw[Ap2]at h;obtain⟨n',h',rfl⟩:=h;rw[List.modify_succ_cons];exact⟨me0,_,rfl,⟨h1,h2⟩,ih2 n' h'⟩
theorem QM{kt:TypeId}{j:IntKind}(hu:P.underlying kt=some (.int j)):AcQ P kt (.int j):=by
 have hrep:∀ (w:World) (F:Nat→Prop) (d:Int) (v:Value),Bn w F (.int j) d v↔v = .int j d:=by intro w F d v;show Dat w F (.int j) d [v]↔_;simp[Dat]
 refine⟨hrep,fun w b d => ?_,fun w d => ?_,fun w F b key es ms h => ?_⟩;have gen:∀ n,(Instr.checkKey b (n+1) kt (.int j d)).run P w = .ok () w:=fun n=>by simp[Instr.checkKey,run_underlying hu]
 exact gen 9999;have gen:∀ n,Instr.sameBits n (.int j d) (.int j d)=true:=fun n=>by cases n<;>simp[Instr.sameBits]
 show(Instr.keyThatStays (.int j d) (.int j d)).run P w=_;simp[Instr.keyThatStays,gen];rfl;have hfk:∀ r,Instr.findNow (.int j) (.int j key) ms 0=some r→(Instr.findKey kt (.int j key) ms).run P w = .ok r w:=by intro r hr';simp[Instr.findKey,run_underlying hu,hr']
 have gen:∀ (es:List (Int×b.den)) (ms:List MapEntry) (i:Nat),Iy w F (.int j) b es ms →
   (G7 (α:=Int) es key=none∧AR (α:=Int) es key=none∧Instr.findNow (.int j) (.int j key) ms i=some none) ∨
   (∃ x n me,G7 (α:=Int) es key=some n∧AR (α:=Int) es key=some x∧Instr.findNow (.int j) (.int j key) ms i=some (some (i+n,me.val))∧ms[n]? = some me∧Bn w F b x me.val∧me.key = .int j key):=by
  intro es
  induction es with
  |nil=>rintro ms i rfl;exact .inl ⟨rfl,rfl,rfl⟩
  |cons e es ih=>
   rintro ms i ⟨me,ms',rfl,⟨h1,h2⟩,h3⟩
   obtain⟨a,x⟩:=e
   have hk:=(hrep w F a _).1 h1
   simp only at h2
   by_cases hak:a=key
   ·subst hak
    refine .inr ⟨x,0,me,by simp[G7],by simp[AR],?_,rfl,h2,hk⟩
    simp[Instr.findNow,Instr.sameNow,hk]
   ·have hfn:Instr.findNow (.int j) (.int j key) (me::ms') i=Instr.findNow (.int j) (.int j key) ms' (i+1):=by
     have:(key==a)=false:=by grind
     simp[Instr.findNow,Instr.sameNow,hk,this]
    rcases ih ms' (i+1) h3 with⟨q0,q1,q2⟩|⟨y,n,me',q0,q1,q2,q3,q4,q5⟩
    ·exact .inl ⟨by simp[G7,hak,q0],by simp[AR,hak,q1],by grind⟩
    ·exact .inr ⟨y,n+1,me',by simp[G7,hak,q0],by simp[AR,hak,q1],by grind,by grind,q4,q5⟩
 rcases gen es ms 0 h with⟨q0,q1,q2⟩|⟨x,n,me,q0,q1,q2,q3,q4,q5⟩
 exact .inl ⟨q0,q1,hfk _ q2⟩;rw[Aqg]at q2;exact .inr ⟨x,n,me,q0,q1,hfk _ q2,q3,q4,q5⟩
theorem Q3{w:World}{F:Nat→Prop}:∀ (t:Ty) {n:List Bool},kinds? t=some n→∀ (d:t.den) (cs:List Value),Dat w F t d cs↔cs=Cz t d
 |.unit,_,_,d,cs=>Iff.rfl
 |.prod (.int k) r,n,h,d,cs=>by simp only[kinds?,Ap2]at h;obtain⟨n',h',rfl⟩:=h;constructor;rintro⟨c1,c2,rfl,h1,h2⟩;rw[(Q3 r h' d.2 c2).1 h2];have h1:c1=[.int k d.1]:=h1;rw[h1];rfl;rintro rfl;exact⟨[.int k d.1],Cz r d.2,rfl,rfl,(Q3 r h' d.2 _).2 rfl⟩
 |.prod .bool r,n,h,d,cs=>by simp only[kinds?,Ap2]at h;obtain⟨n',h',rfl⟩:=h;constructor;rintro⟨c1,c2,rfl,h1,h2⟩;rw[(Q3 r h' d.2 c2).1 h2];have h1:c1=[.bool d.1]:=h1;rw[h1];rfl;rintro rfl;exact⟨[.bool d.1],Cz r d.2,rfl,rfl,(Q3 r h' d.2 _).2 rfl⟩
 |.prod .unit _,_,h,_,_=>by simp[kinds?]at h
 |.prod (.slice _) _,_,h,_,_=>by simp[kinds?]at h
 |.prod (.prod _ _) _,_,h,_,_=>by simp[kinds?]at h
 |.prod (.arr _ _) _,_,h,_,_=>by simp[kinds?]at h
 |.bool,_,h,_,_=>by simp[kinds?]at h
 |.int _,_,h,_,_=>by simp[kinds?]at h
 |.slice _,_,h,_,_=>by simp[kinds?]at h
 |.arr _ _,_,h,_,_=>by simp[kinds?]at h
theorem Sj:∀ (t:Ty) {n:List Bool},kinds? t=some n→∀ (d d':t.den),BJ n (BS t d) (BS t d')=some (@decide (d=d') (decDen t d d'))
 |.unit,n,h,d,d'=>by simp only[kinds?,Apq]at h;subst h;cases d;cases d';simp[BS,BJ]
 |.prod (.int k) r,n,h,d,d'=>by simp only[kinds?,Ap2]at h;obtain⟨n',h',rfl⟩:=h;obtain⟨a,x⟩:=d;obtain⟨b,y⟩:=d';have:=Sj r h' x y;simp only[BS,ArS,BJ,Apy,this,Db];congr 1;grind
 |.prod .bool r,n,h,d,d'=>by simp only[kinds?,Ap2]at h;obtain⟨n',h',rfl⟩:=h;obtain⟨a,x⟩:=d;obtain⟨b,y⟩:=d';have:=Sj r h' x y;simp only[BS,ArS,BJ,this];congr 1;grind
 |.prod .unit _,_,h,_,_=>by simp[kinds?]at h
 |.prod (.slice _) _,_,h,_,_=>by simp[kinds?]at h
 |.prod (.prod _ _) _,_,h,_,_=>by simp[kinds?]at h
 |.prod (.arr _ _) _,_,h,_,_=>by simp[kinds?]at h
 |.bool,_,h,_,_=>by simp[kinds?]at h
 |.int _,_,h,_,_=>by simp[kinds?]at h
 |.slice _,_,h,_,_=>by simp[kinds?]at h
 |.arr _ _,_,h,_,_=>by simp[kinds?]at h
theorem Ol:∀ (t:Ty) {n:List Bool},kinds? t=some n→∀ (d:t.den),∀ v∈Cz t d,(∃ k i,v = .int k i)∨∃ b,v = .bool b
 |.unit,_,_,d,v,hv=>by simp[Cz]at hv
 |.prod (.int k) r,n,h,d,v,hv=>by simp only[kinds?,Ap2]at h;obtain⟨n',h',rfl⟩:=h;simp only[Cz,ArS,Apv]at hv;rcases hv with rfl|hv;simp;exact Ol r h' d.2 v hv
 |.prod .bool r,n,h,d,v,hv=>by simp only[kinds?,Ap2]at h;obtain⟨n',h',rfl⟩:=h;simp only[Cz,ArS,Apv]at hv;rcases hv with rfl|hv;simp;exact Ol r h' d.2 v hv
 |.prod .unit _,_,h,_,_,_=>by simp[kinds?]at h
 |.prod (.slice _) _,_,h,_,_,_=>by simp[kinds?]at h
 |.prod (.prod _ _) _,_,h,_,_,_=>by simp[kinds?]at h
 |.prod (.arr _ _) _,_,h,_,_,_=>by simp[kinds?]at h
 |.bool,_,h,_,_,_=>by simp[kinds?]at h
 |.int _,_,h,_,_,_=>by simp[kinds?]at h
 |.slice _,_,h,_,_,_=>by simp[kinds?]at h
 |.arr _ _,_,h,_,_,_=>by simp[kinds?]at h
theorem J4{t:Ty}{n:List Bool}(h:kinds? t=some n)(d:t.den):CG t d = .agg (Cz t d).toArray∧t.isAgg=true:=by cases t<;>first|exact⟨rfl,rfl⟩|(simp[kinds?]at h)
end
end Go.Pev
end
section
namespace Go.Pev
open Go.RowKit
section
variable {P:Program}
theorem Om:∀ (t:Ty) {n:List Bool},kinds? t=some n→∀ (d:t.den),(Cz t d).length=n.length
 |.unit,n,h,d=>by simp only[kinds?,Apq]at h;subst h;rfl
 |.prod (.int k) r,n,h,d=>by simp only[kinds?,Ap2]at h;obtain⟨n',h',rfl⟩:=h;simp[Cz,Om r h' d.2]
 |.prod .bool r,n,h,d=>by simp only[kinds?,Ap2]at h;obtain⟨n',h',rfl⟩:=h;simp[Cz,Om r h' d.2]
 |.prod .unit _,_,h,_=>by simp[kinds?]at h
 |.prod (.slice _) _,_,h,_=>by simp[kinds?]at h
 |.prod (.prod _ _) _,_,h,_=>by simp[kinds?]at h
 |.prod (.arr _ _) _,_,h,_=>by simp[kinds?]at h
 |.bool,_,h,_=>by simp[kinds?]at h
 |.int _,_,h,_=>by simp[kinds?]at h
 |.slice _,_,h,_=>by simp[kinds?]at h
 |.arr _ _,_,h,_=>by simp[kinds?]at h
theorem AGs{w:World}{T:TypeId}(h:Lv P T=true)(b:Bool)(n:Nat){v:Value}:(Instr.checkKey b (n+1) T v).run P w = .ok () w:=by
 rcases B2 h with⟨k,hk,_⟩|⟨hk,_⟩
 simp[Instr.checkKey,run_underlying hk];simp[Instr.checkKey,run_underlying hk]
theorem AGt{w:World}(b:Bool)(d:Nat)(xs:Array Value):∀ (fs:List Field) (i:Nat),Dt P fs i=true→i+fs.length≤xs.size →
  (forIn fs PUnit.unit fun (f : Field) (_ : PUnit) => ((if f.name ≠ "_" then (part f.type xs f.offset >>= fun v => Instr.checkKey b (d + 1) f.type v >>= fun _ => pure (ForInStep.yield PUnit.unit)) else pure (ForInStep.yield PUnit.unit)) : Sem (ForInStep PUnit))).run P w = .ok PUnit.unit w := by
 intro fs;induction fs with
  |nil=>simp
  |cons f fs ih=>
   intro i hok hl;simp only[Dt,Apt,bne_iff_ne,Aps]at hok;obtain⟨hn,ho,hsc,hok⟩:=hok;rw[Apw]at hl;have hag:EZ P f.type=some false:=by rcases B2 hsc with⟨k,hk,_⟩|⟨hk,_⟩<;>simp[EZ,hk]
   have hlt:i<xs.size:=by omega
   have p1:(part f.type xs f.offset).run P w = .ok xs[i] w:=by rw[ho];simp[part,Cc hag,hlt]
   have h3:=ih (i+1) hok (by omega);simp only[List.forIn_cons,Sem.run_bind,hn,ne_eq,not_false_eq_true,AqP,p1,Result.andThen_ok,AGs hsc,Sem.run_pure];exact h3
theorem ARk{kt:TypeId}{t:Ty}{n:List Bool}(hs:structEq P kt=some n)(hk:kinds? t=some n):AcQ P kt t:=by
 obtain⟨fs,hu,hgt,hst,hok,hn⟩:=Z6 hs;have hfo:P.fieldsOf kt=fs:=by simp[Program.fieldsOf,hu]
 have hrep:∀ (w:World) (F:Nat→Prop) (d:t.den) (v:Value),Bn w F t d v↔v=CG t d:=by intro w F d v;obtain⟨e1,e2⟩:=J4 hk d;unfold Bn;rw[Ap5 e2,e1];constructor;rintro⟨vs,rfl,h⟩;have:=(Q3 t hk d _).1 h;rw[← this];rintro rfl;exact⟨_,rfl,(Q3 t hk d _).2 (by simp)⟩
 have hlen:∀ d:t.den,(Cz t d).length=fs.size:=by intro d;rw[Om t hk d,hn,Aqk,AqG]
 refine⟨hrep,fun w b d => ?_,fun w d => ?_,fun w F b key es ms h => ?_⟩;rw[(J4 hk d).1];have:=fun m=>AGt (P:=P) (w:=w) b m (Cz t d).toArray fs.toList 0 hok (by grind);have gen:∀ m,(Instr.checkKey b (m+1+1) kt (.agg (Cz t d).toArray)).run P w = .ok () w:=by intro m;rw[Instr.checkKey];simp only[Sem.run_bind,run_underlying hu,Result.andThen_ok];simp_all
 grind;rw[(J4 hk d).1];have gen:∀ m,Instr.sameBits (m+1) (.agg (Cz t d).toArray) (.agg (Cz t d).toArray)=true:=by
  intro m;have hz:∀ l:List Value,(∀ v∈l,(∃ k i,v = .int k i)∨∃ b,v = .bool b)→((l.zip l).all fun p=>Instr.sameBits m p.1 p.2)=true:=by
   intro l;induction l with
    |nil=>simp
    |cons v l ih=>
     intro h;rw[List.zip_cons_cons,List.all_cons,ih (fun x hx=>h x (by simp[hx]))];rcases h v (by simp)with⟨k,i,rfl⟩|⟨b,rfl⟩
     cases m<;>simp[Instr.sameBits];cases m<;>simp[Instr.sameBits]
  simp only[Instr.sameBits,beq_self_eq_true,Ase];exact hz _ (Ol t hk d)
 unfold Instr.keyThatStays;simp_all;have heq:∀ d d':t.den,(Op.equal kt (CG t d) (CG t d')).run P w = .ok (@decide (d=d') (decDen t d d')) w:=by intro d d';rw[(J4 hk d).1,(J4 hk d').1];unfold Op.equal Op.maxDepth;rw[run_equalIn_agg w 9999 kt _ _ (by grind) hst,hfo];have r:∀ x:t.den,AT w F (fun _=>none) [] (BS t x) ((Cz t x).toArray.toList.drop 0):=fun x=>Ih t ((Q3 t hk x _).2 (by simp));exact Qx 9998 _ _ fs.toList 0 (BS t d) (BS t d') _ hok (r d) (r d') (by rw[← hn];exact Sj t hk d d')
 have gen:∀ (es:List (t.den×b.den)) (ms:List MapEntry) (i:Nat),Iy w F t b es ms →
   (G7 es key=none∧AR es key=none∧(Instr.findAsking kt (CG t key) ms i).run P w = .ok none w) ∨
   (∃ x n me,G7 es key=some n∧AR es key=some x∧(Instr.findAsking kt (CG t key) ms i).run P w = .ok (some (i+n,me.val)) w∧ms[n]? = some me∧Bn w F b x me.val∧me.key=CG t key):=by
  intro es
  induction es with
  |nil=>rintro ms i rfl;exact .inl ⟨rfl,rfl,by simp[Instr.findAsking]⟩
  |cons e es ih=>
   rintro ms i ⟨me,ms',rfl,⟨h1,h2⟩,h3⟩
   obtain⟨a,x⟩:=e
   have hkk:=(hrep w F a _).1 h1
   simp only at h2
   have hq:=heq key a
   by_cases hak:a=key
   ·subst hak
    rw[Apr rfl]at hq
    refine .inr ⟨x,0,me,by simp[G7],by simp[AR],?_,rfl,h2,hkk⟩
    simp[Instr.findAsking,hkk,hq]
   ·rw[Apo (fun h=>hak h.symm)]at hq
    have hfn:(Instr.findAsking kt (CG t key) (me::ms') i).run P w=(Instr.findAsking kt (CG t key) ms' (i+1)).run P w:=by
     simp[Instr.findAsking,hkk,hq]
    rcases ih ms' (i+1) h3 with⟨q0,q1,q2⟩|⟨y,n,me',q0,q1,q2,q3,q4,q5⟩
    ·exact .inl ⟨by simp[G7,hak,q0],by simp[AR,hak,q1],by grind⟩
    ·exact .inr ⟨y,n+1,me',by simp[G7,hak,q0],by simp[AR,hak,q1],by grind,by grind,q4,q5⟩
 have hfk:∀ r,(Instr.findAsking kt (CG t key) ms).run P w = .ok r w→(ms=[]→r=none)→(Instr.findKey kt (CG t key) ms).run P w = .ok r w:=by
  intro r hr' hnil;cases ms with
   |nil=>simp[Instr.findKey,run_underlying hu,Instr.findNow,hnil rfl]
   |cons me ms=>simp only[Instr.findKey,Sem.run_bind,run_underlying hu,Result.andThen_ok,Instr.findNow,Instr.sameNow];exact hr'
 grind
theorem AAM{T:TypeId}{t:Ty}(h:P5 P T=some t):∃ e k,P.underlying T=some (.array 2 e)∧P.underlying e=some (.int k)∧BT P e=some 1∧t = .prod (.int k) (.prod (.int k) .unit):=by unfold P5 at h;grind
theorem AgH{kt:TypeId}{t:Ty}(hp:P5 P kt=some t):AcQ P kt t:=by
 obtain⟨e,j,hu,he,hs,rfl⟩:=AAM hp;obtain⟨i0,hi0,hi1⟩:=A6 hs;have hk:kinds? (.prod (.int j) (.prod (.int j) .unit))=some [true,true]:=rfl;have hag:EZ P e=some false:=by simp[EZ,he]
 have hsz:∀ w,(sizeOf e).run P w = .ok 1 w:=fun w=>by rw[run_sizeOf hi0,hi1]
 have hkv:∀ d:(Ty.prod (.int j) (.prod (.int j) .unit)).den,CG (.prod (.int j) (.prod (.int j) .unit)) d = .agg #[.int j d.1,.int j d.2.1]:=fun d=>rfl;have hrep:∀ (w:World) (F:Nat→Prop) (d:(Ty.prod (.int j) (.prod (.int j) .unit)).den) (v:Value),Bn w F (.prod (.int j) (.prod (.int j) .unit)) d v↔v=CG (.prod (.int j) (.prod (.int j) .unit)) d:=by intro w F d v;obtain⟨e1,e2⟩:=J4 hk d;unfold Bn;rw[Ap5 e2,e1];constructor;rintro⟨vs,rfl,h⟩;have:=(Q3 _ hk d _).1 h;rw[← this];rintro rfl;exact⟨_,rfl,(Q3 _ hk d _).2 (by simp)⟩
 have hpart:∀ (w:World) (a b:Value),(part e #[a,b] 0).run P w = .ok a w∧(part e #[a,b] 1).run P w = .ok b w:=fun w a b=>by constructor<;>simp[part,Cc hag]
 have hck1:∀ (w:World) (b:Bool) (n:Nat) (d:Int),(Instr.checkKey b (n+1) e (.int j d)).run P w = .ok () w:=fun w b n d=>by simp[Instr.checkKey,run_underlying he]
 refine⟨hrep,fun w b d => ?_,fun w d => ?_,fun w F b key es ms h => ?_⟩;rw[hkv];have gen:∀ m,(Instr.checkKey b (m+1+1) kt (.agg #[.int j d.1,.int j d.2.1])).run P w = .ok () w:=by intro m;rw[Instr.checkKey];simp only[Sem.run_bind,run_underlying hu,Result.andThen_ok];simp[Std.Legacy.Range.forIn_eq_forIn_range',Std.Legacy.Range.size,List.range',hsz,(hpart w _ _).1,(hpart w _ _).2,hck1]
 grind;rw[hkv];have gen:∀ m,Instr.sameBits (m+1) (.agg #[.int j d.1,.int j d.2.1]) (.agg #[.int j d.1,.int j d.2.1])=true:=by intro m;cases m<;>simp[Instr.sameBits]
 unfold Instr.keyThatStays;simp_all;have heq:∀ d d':(Ty.prod (.int j) (.prod (.int j) .unit)).den,(Op.equal kt (CG (.prod (.int j) (.prod (.int j) .unit)) d) (CG (.prod (.int j) (.prod (.int j) .unit)) d')).run P w = .ok (@decide (d=d') (decDen (.prod (.int j) (.prod (.int j) .unit)) d d')) w:=by
  intro d d';rw[hkv,hkv];have hone:∀ (n:Nat) (a b:Int),(Op.equalIn (n+1) e (.int j a) (.int j b)).run P w = .ok (a==b) w:=fun n a b=>by simp[Op.equalIn,run_underlying he]
  have gen:∀ n,(Op.equalIn (n+1+1) kt (.agg #[.int j d.1,.int j d.2.1]) (.agg #[.int j d'.1,.int j d'.2.1])).run P w = .ok ((d.1==d'.1)&&(d.2.1==d'.2.1)) w:=by intro n;rw[Op.equalIn];simp only[Sem.run_bind,run_underlying hu,Result.andThen_ok,hsz];simp only[Std.Legacy.Range.forIn_eq_forIn_range',Std.Legacy.Range.size,List.range',Ar7,Arr];by_cases h1:d.1=d'.1;by_cases h2:d.2.1=d'.2.1<;>simp[hone,(hpart w _ _).1,(hpart w _ _).2,h1,h2];simp_all
  unfold Op.equal;have:=gen 9998;rw[show Op.maxDepth=9998+1+1 from rfl,this];congr 1;grind
 have gen:∀ (es:List ((Ty.prod (.int j) (.prod (.int j) .unit)).den×b.den)) (ms:List MapEntry) (i:Nat),Iy w F (.prod (.int j) (.prod (.int j) .unit)) b es ms →
   (@G7 _ _ (decDen _) es key=none∧@AR _ _ (decDen _) es key=none∧(Instr.findAsking kt (CG (.prod (.int j) (.prod (.int j) .unit)) key) ms i).run P w = .ok none w) ∨
   (∃ x n me,@G7 _ _ (decDen _) es key=some n∧@AR _ _ (decDen _) es key=some x∧(Instr.findAsking kt (CG (.prod (.int j) (.prod (.int j) .unit)) key) ms i).run P w = .ok (some (i+n,me.val)) w∧ms[n]? = some me∧Bn w F b x me.val∧me.key=CG (.prod (.int j) (.prod (.int j) .unit)) key):=by
  intro es
  induction es with
  |nil=>rintro ms i rfl;exact .inl ⟨rfl,rfl,by simp[Instr.findAsking]⟩
  |cons e' es ih=>
   rintro ms i ⟨me,ms',rfl,⟨h1,h2⟩,h3⟩
   obtain⟨a,x⟩:=e'
   have hkk:=(hrep w F a _).1 h1
   simp only at h2
   have hq:=heq key a
   by_cases hak:a=key
   ·subst hak
    rw[Apr rfl]at hq
    refine .inr ⟨x,0,me,by simp[G7],by simp[AR],?_,rfl,h2,hkk⟩
    simp[Instr.findAsking,hkk,hq]
   ·rw[Apo (fun h=>hak h.symm)]at hq
    have hfn:(Instr.findAsking kt (CG (.prod (.int j) (.prod (.int j) .unit)) key) (me::ms') i).run P w=(Instr.findAsking kt (CG (.prod (.int j) (.prod (.int j) .unit)) key) ms' (i+1)).run P w:=by
     simp[Instr.findAsking,hkk,hq]
    rcases ih ms' (i+1) h3 with⟨q0,q1,q2⟩|⟨y,n,me',q0,q1,q2,q3,q4,q5⟩
    ·exact .inl ⟨by simp[G7,hak,q0],by simp[AR,hak,q1],by grind⟩
    ·exact .inr ⟨y,n+1,me',by simp[G7,hak,q0],by simp[AR,hak,q1],by grind,by grind,q4,q5⟩
 have hfk:∀ r,(Instr.findAsking kt (CG (.prod (.int j) (.prod (.int j) .unit)) key) ms).run P w = .ok r w→(ms=[]→r=none)→(Instr.findKey kt (CG (.prod (.int j) (.prod (.int j) .unit)) key) ms).run P w = .ok r w:=by
  intro r hr' hnil;cases ms with
   |nil=>simp[Instr.findKey,run_underlying hu,Instr.findNow,hnil rfl]
   |cons me ms=>simp only[Instr.findKey,Sem.run_bind,run_underlying hu,Result.andThen_ok,Instr.findNow,Instr.sameNow];exact hr'
 grind
theorem QN{kt:TypeId}{t:Ty}(h:X8 P kt=some t):AcQ P kt t:=by unfold X8 at h;split at h;rename_i t' hi;cases h;unfold AgU at hi;split at hi;rename_i k hu;cases hi;exact QM hu;grind;split at h;rename_i n t' hs ht;split at h;rename_i hd;cases h;exact ARk hs (Ar6 hd);grind;exact AgH h
end
end Go.Pev
end
section
namespace Go.Pev
open Go.RowKit
section
variable {P:Program} {E:Env}
theorem AgS{w:World}{F:Nat→Prop}{m:Mp}{H:List Ob}:∀ {cs:List AV} {l:List (IntKind×Int)} {us:List Value},AK5 cs=some l→AT w F m H cs us→us=l.map fun p=>Value.int p.1 p.2:=by
 intro cs;induction cs with
  |nil=>intro l us h hr;simp only[AK5,Apq]at h;subst h;unfold AT at hr;exact hr
  |cons c cs ih=>intro l us h hr;unfold AK5 at h;split at h;grind;rename_i k n r h1;cases h1;simp only[Ap2]at h;obtain⟨l',h2,rfl⟩:=h;unfold AT at hr;obtain⟨u,us',rfl,h3,h4⟩:=hr;rw[A1 h3,ih h2 h4];rfl;grind
theorem AgQ{w:World}{F:Nat→Prop}{m:Mp}{H:List Ob}:∀ (l:List (IntKind×Int)),AT w F m H (l.map fun p=>AV.data (.int p.1) p.2) (l.map fun p=>Value.int p.1 p.2):=by
 intro l;induction l with
  |nil=>unfold AT;rfl
  |cons p l ih=>simp only[AqL];unfold AT;exact⟨_,_,rfl,Ar _ _,ih⟩
theorem Nw(T:TypeId)(x:Operand):Claim P E (.makeInterface T x):=by
 intro R ty ρ H fz slot k r h;simp only[evalOp,Eb]at h;split at h;rename_i fs l hu hag hl;refine⟨_,_,h,fun R' k'=>by simp only[evalOp,Eb,hu,hag,hl],AS fun w F m ρc o hop hty hi hr => ?_⟩;cases hc:cells? (ρ x)with
  |none=>grind
  |some cs=>
   rw[hc]at hl;simp only[AqQ]at hl;obtain⟨vs,e1⟩:=KJ hag (hr x);have hrc:=cells?_ok hc (hr x);rw[e1]at hrc;have e2:=AgS hl hrc;simp only[Value.cells]at e2;refine⟨Jd (some (T,l)),?_,by unfold Rep;rfl⟩;have e3:vs=(l.map fun p=>Value.int p.1 p.2).toArray:=by grind
   simp[execOp,hop,e1,Instr.makeInterface,run_underlying hu,Jd,e3]
 grind
theorem So(x:Operand)(S T:TypeId)(ok:Bool):Claim P E (.typeAssert x S T ok):=by
 intro R ty ρ H fz slot k r h;simp only[evalOp,EE]at h;split at h;rename_i fs t cs q hu hz hx;split at h;rename_i hok;have hok':=hok;rw[Apt]at hok';obtain⟨rfl,hag⟩:=hok';obtain⟨hty',hcs',i,z,hi0,hz0,hzk,hsz,hza⟩:=Bl hz;have hzr:∀ (w:World) (F:Nat→Prop) (m:Mp),Rep w F m H (.agg cs) z:=by
  intro w F m;rw[hag]at hza;cases z with
   |agg zs=>unfold Rep;exact⟨zs,rfl,HM _ _ hzk,KQ _ _ hzk⟩
   |_=>simp[Oo]at hza
 have tup:∀ (w:World) (F:Nat→Prop) (m:Mp) (a:AV) (u:Value) (b:Bool),Rep w F m H a u→Rep w F m H (.tup [a,.data .bool b]) (.tuple #[u,.bool b]):=by intro w F m a u b h;unfold Rep;refine⟨_,rfl,?_⟩;unfold AT;exact⟨u,_,rfl,h,Mo (BH _)⟩
 have hq:∀ {w:World} {F:Nat→Prop} {m:Mp} {ρc:Operand→Value},(∀ x,Rep w F m H (ρ x) (ρc x))→ρc x=Jd q:=by intro w F m ρc hr;have r1:=hx▸hr x;unfold Rep at r1;exact r1
 split at h;refine⟨_,_,h,fun R' k'=>by simp only[evalOp,EE,hu,hz,hx,hok],AS fun w F m ρc o hop hty hi hr=>⟨_,?_,tup w F m _ z false (hzr w F m)⟩⟩;simp[execOp,hop,hq hr,Jd,Instr.typeAssert,run_underlying hu,BO hi0 hz0];rename_i T' l;split at h;rename_i hT;refine⟨_,_,h,fun R' k'=>by simp only[evalOp,EE,hu,hz,hx,hok,hT],AS fun w F m ρc o hop hty hi hr=>⟨_,?_,tup w F m _ (.agg (l.map fun p=>Value.int p.1 p.2).toArray) true ?_⟩⟩;simp only[Aps]at hT;simp[execOp,hop,hq hr,Jd,Instr.typeAssert,run_underlying hu,hT];unfold Rep;refine⟨_,rfl,by simpa using AgQ l,fun u hu => ?_⟩;simp only[AqU]at hu;obtain⟨p,_,rfl⟩:=hu;rfl;rename_i hT;refine⟨_,_,h,fun R' k'=>by simp only[evalOp,EE,hu,hz,hx,hok,hT],AS fun w F m ρc o hop hty hi hr=>⟨_,?_,tup w F m _ z false (hzr w F m)⟩⟩;simp only[Aqc]at hT;simp[execOp,hop,hq hr,Jd,Instr.typeAssert,run_underlying hu,BO hi0 hz0,hT];grind;grind
end
end Go.Pev
end
section
namespace Go.Pev
open Go.RowKit
section
variable {P:Program} {E:Env}
theorem ASy(hE:∀ g,Ak P g (E.spec g))(f:Operand)(args:Array Operand)(ts:Array TypeId):Claim P E (.call { callee:=.value f,args:=args,argTypes:=ts }):=by
 intro R ty ρ H fz slot k r h;simp only[evalOp,Ji]at h;split at h
 ·rename_i g caps hf;obtain⟨v,e,h1,h2,h3,h4⟩:=hE g R _ H fz slot k r h;refine⟨v,e,h1,fun R' k'=>by simp only[evalOp,Ji,hf];grind,?_⟩;intro w F m a o next Q hop hty hi hr hn
  have hrf:=hr f;rw[hf]at hrf;unfold Rep at hrf;obtain⟨cs,e1,e2⟩:=hrf;have hargs:AT w F m H (args.toList.map ρ++caps) ((args.map a.eval++cs).toList):=by rw[Array.toList_append,ArE];exact Gx (DL (by simp) fun i c v hc hv=>by grind) e2
  have hcall:=h4 w F m _ hi hargs;rw[Arm]at hcall;unfold Oper.wp;have hrun:(execOp a.eval o).run P w = .ok (.enter g (args.map a.eval++cs)) w:=by simp[execOp,hop,resolve,e1,Deferred.ofValue,invoke,h3 _ w]
  rw[hrun];exact hcall.mono fun en w' ⟨u,hen,F',m',hg,hrep⟩=>by grind
 ·rename_i g caps hf;obtain⟨v,e,h1,h2,h3,h4⟩:=hE g R _ H fz slot k r h;refine⟨v,e,h1,fun R' k'=>by simp only[evalOp,Ji,hf];grind,?_⟩;intro w F m a o next Q hop hty hi hr hn
  have hrf:=hr f;rw[hf]at hrf;unfold Rep at hrf;obtain⟨cs,e1,e2⟩:=hrf;have hargs:AT w F m H (caps++args.toList.map ρ) ((cs++args.map a.eval).toList):=by rw[Array.toList_append,ArE];exact Gx e2 (DL (by simp) fun i c v hc hv=>by grind)
  have hcall:=h4 w F m _ hi hargs;rw[Arm]at hcall;unfold Oper.wp;have hrun:(execOp a.eval o).run P w = .ok (.enter g (cs++args.map a.eval)) w:=by simp[execOp,hop,resolve,e1,Deferred.ofValue,invoke,h3 _ w]
  rw[hrun];exact hcall.mono fun en w' ⟨u,hen,F',m',hg,hrep⟩=>by grind
 grind
theorem APK{T:TypeId}(h:AUT P T=true):P.underlying T=some .string:=by unfold AUT at h;grind
theorem AGv{T:TypeId}(h:WT P T=true):∃ e,P.underlying T=some (.slice e)∧P.underlying e=some (.int .u8):=by unfold WT at h;grind
theorem APs{w:World}{F:Nat→Prop}:∀ {xs:List Int} {row:List Value},rows (Dat w F (.int .u8)) xs row→row=xs.map (Value.int .u8):=by
 intro xs;induction xs with
  |nil=>rintro row rfl;rfl
  |cons x xs ih=>
   rintro row ⟨c1,c2,rfl,h1,h2⟩;rw[ih h2];have h1:c1=[.int .u8 x]:=by simpa [Dat]using h1
   grind
theorem AQE:∀ (xs:List Int) (s:ByteArray),bytesOf (xs.foldl (fun r n=>r.push (UInt8.ofNat n.toNat)) s)=bytesOf s++LN xs:=by
 intro xs;induction xs with
  |nil=>intro s;simp[LN]
  |cons x xs ih=>intro s;rw[AqY,ih];simp[bytesOf,LN,ByteArray.push]
theorem Ahq{S T:TypeId}{x:Operand}{w:World}{F:Nat→Prop}{m:Mp}{H:List Ob}{fz:List Bool}{v:AV}{xs:List Int}{fr:List Nat}{ρc:Operand→Value}{o:Oper}(hop:o.op = .convert S T x)
  (hs:WT P S=true) (hd:AUT P T=true) (hi:HI w F m H fz) (hx:E0 H (.slice (.int .u8)) v=some (xs,fr)) (hr:Rep w F m H v (ρc x)) :
  ∃ u,(execOp ρc o).run P w = .ok (.value u) w∧Rep w F m H (.str (LN xs)) u:=by
 obtain⟨e,h1,h2⟩:=AGv hs;have h3:=APK hd;obtain⟨a,cap,e1,hle,hne,news,hrows,hcell⟩:=Dx hi hx hr;cases a with
  |none=>
   have hxs:xs=[]:=by grind
   subst hxs;refine⟨.string ByteArray.empty,?_,?_⟩;simp[execOp,hop,e1,run_convert_bytes_string w S T e none _ _ h1 h2 h3,Conv.bytesToString];unfold Rep;exact⟨_,rfl,rfl⟩
  |some ad=>
   have hn:=APs hrows;subst hn;have hl:(Go.loadCells ad xs.length).run P w = .ok (xs.map (Value.int .u8)).toArray w:=by have:=run_loadCells_list (P:=P) w ad (xs.map (Value.int .u8)) (fun j v hj=>hcell ad rfl j v hj);grind
   refine⟨.string (xs.foldl (fun r n=>r.push (UInt8.ofNat n.toNat)) ByteArray.empty),?_,?_⟩;simp[execOp,hop,e1,run_convert_bytes_string w S T e (some ad) _ _ h1 h2 h3,run_bytesToString w ad _ cap xs hl];unfold Rep;exact⟨_,rfl,(AQE _ _).trans (AqI _)⟩
theorem AAv(S T:TypeId)(x:Operand):Claim P E (.convert S T x):=by intro R ty ρ H fz slot k r h;simp only[evalOp,GD]at h;split at h;rename_i j' n j hx hs hk;refine⟨_,_,h,fun R' k'=>by simp only[evalOp,GD,hx,hs,hk],AS fun w F m ρc o hop hty hi hr=>⟨.int j (j.wrap n),?_,Ar _ _⟩⟩;have e1:=A1 (hx▸hr x);obtain⟨d,hd⟩:=Aqs.1 hs;simp[execOp,hop,e1,convert,run_underlying hd,run_underlying (Gp hk),Conv.intToInt];rename_i v b1 b2 hne;split at h;rename_i hs hd;split at h;rename_i xs fr hx;refine⟨_,_,h,fun R' k' => ?_,AS fun w F m ρc o hop hty hi hr=>Ahq hop hs hd hi hx (hr x)⟩;simp only[evalOp,GD];grind;grind;grind
theorem Px{w:World}{F:Nat→Prop}{k:IntKind}{n:Int}{v:Value}(h:Bn w F (.int k) n v):v = .int k n:=by unfold Bn at h;have h:Dat w F (.int k) n [v]:=h;simpa [Dat]using h
theorem Bk{w:World}{r:Nat}{ms:Array MapEntry}{clock:Nat}(h:w.heap[r]? = some (.map ms clock)):(getObj r).run P w = .ok (.map ms clock) w:=by simp[getObj,Sem.run,h]
theorem JR{kt:TypeId}{j:IntKind}(hu:P.underlying kt=some (.int j)){key:Int}{ms:List MapEntry}{w:World}{r:Option (Nat×Value)}(h:Instr.findNow (.int j) (.int j key) ms 0=some r):(Instr.findKey kt (.int j key) ms).run P w = .ok r w:=by simp[Instr.findKey,run_underlying hu,h]
theorem ACz{kt:TypeId}{j:IntKind}(hu:P.underlying kt=some (.int j)){w:World}(key:Int){ks:List Int}{ms:Array MapEntry}(h:ms.toList.map (·.key)=ks.map (Value.int j)):
  (G8 ks key=ks.length∧(Instr.findKey kt (.int j key) ms.toList).run P w = .ok none w) ∨
  (∃ me,G8 ks key<ks.length∧ms.toList[G8 ks key]? = some me∧me.key = .int j key∧ks[G8 ks key]? = some key∧(Instr.findKey kt (.int j key) ms.toList).run P w = .ok (some (G8 ks key,me.val)) w):=by
 have gen:∀ (ks:List Int) (ms:List MapEntry) (i:Nat),ms.map (·.key)=ks.map (Value.int j) →
   (G8 ks key=ks.length∧Instr.findNow (.int j) (.int j key) ms i=some none) ∨
   (∃ me,G8 ks key<ks.length∧ms[G8 ks key]? = some me∧me.key = .int j key∧ks[G8 ks key]? = some key∧Instr.findNow (.int j) (.int j key) ms i=some (some (i+G8 ks key,me.val))):=by
  intro ks
  induction ks with
  |nil=>
   intro ms i h
   have:ms=[]:=by simp_all
   subst this
   exact .inl ⟨rfl,rfl⟩
  |cons a ks ih=>
   intro ms i h
   cases ms with
   |nil=>simp at h
   |cons me ms=>
    simp only[AqL,AqF]at h
    obtain⟨hk,h⟩:=h
    by_cases hak:a=key
    ·subst hak
     refine .inr ⟨me,by simp[G8],by simp[G8],hk,by simp[G8],?_⟩
     simp[Instr.findNow,Instr.sameNow,hk,G8]
    ·have hfn:Instr.findNow (.int j) (.int j key) (me::ms) i=Instr.findNow (.int j) (.int j key) ms (i+1):=by
      have:(key==a)=false:=by grind
      simp[Instr.findNow,Instr.sameNow,hk,this]
     have hp:G8 (a::ks) key=G8 ks key+1:=by simp[G8,hak]
     grind
 rcases gen ks ms.toList 0 h with⟨q0,q2⟩|⟨me,q0,q1,q2,q3,q4⟩
 exact .inl ⟨q0,JR hu q2⟩;rw[Aqg]at q4;exact .inr ⟨me,q0,q1,q2,q3,JR hu q4⟩
theorem Aa4{kt:TypeId}{j:IntKind}(hu:P.underlying kt=some (.int j)){w:World}(key:Int){β:Type}{V:β→Value→Prop}{es:List (Int×β)}{ms:List MapEntry}(h:Yb (fun d v=>v = .int j d) V es ms):
  (AR es key=none∧(Instr.findKey kt (.int j key) ms).run P w = .ok none w) ∨
  (∃ (x:β) (n:Nat) (me:MapEntry),AR es key=some x∧(Instr.findKey kt (.int j key) ms).run P w = .ok (some (n,me.val)) w∧V x me.val):=by
 have gen:∀ (es:List (Int×β)) (ms:List MapEntry) (i:Nat),Yb (fun d v=>v = .int j d) V es ms →
   (AR es key=none∧Instr.findNow (.int j) (.int j key) ms i=some none) ∨
   (∃ (x:β) (n:Nat) (me:MapEntry),AR es key=some x∧Instr.findNow (.int j) (.int j key) ms i=some (some (n,me.val))∧V x me.val):=by
  intro es
  induction es with
  |nil=>rintro ms i rfl;exact .inl ⟨rfl,rfl⟩
  |cons e es ih=>
   rintro ms i ⟨me,ms',rfl,hk,hv,h3⟩
   obtain⟨a,x⟩:=e
   have hk:me.key = .int j a:=hk
   by_cases hak:a=key
   ·subst hak
    refine .inr ⟨x,i,me,by simp[AR],?_,hv⟩
    simp[Instr.findNow,Instr.sameNow,hk]
   ·have hfn:Instr.findNow (.int j) (.int j key) (me::ms') i=Instr.findNow (.int j) (.int j key) ms' (i+1):=by
     have:(key==a)=false:=by grind
     simp[Instr.findNow,Instr.sameNow,hk,this]
    rcases ih ms' (i+1) h3 with⟨q1,q2⟩|⟨y,n,me',q1,q2,q3⟩
    ·exact .inl ⟨by simp[AR,hak,q1],by grind⟩
    ·exact .inr ⟨y,n,me',by simp[AR,hak,q1],by grind,q3⟩
 rcases gen es ms 0 h with⟨q1,q2⟩|⟨x,n,me,q1,q2,q3⟩
 exact .inl ⟨q1,JR hu q2⟩;exact .inr ⟨x,n,me,q1,JR hu q2,q3⟩
theorem AGo(T:TypeId)(mm x:Operand)(ok:Bool):Claim P E (.lookup T mm x ok):=by
 intro R ty ρ H fz slot k r h;simp only[evalOp,Ds]at h;split at h;rename_i kt vt id hu hm;split at h;rename_i ka b es ho;split at h;rename_i b' cs' hkt hz;split at h;rename_i key fr hb hx;simp only[Aps]at hb;subst hb;have hkt':=hkt;simp only[Aps]at hkt';have hK:=QN hkt';obtain⟨hty',hcs',i,z,hi0,hz0,hok,hsz,hza⟩:=Bl hz;subst hcs'
 have main:∀ (w:World) (F:Nat→Prop) (m:Mp) (ρc:Operand→Value) (o:Oper),o.op = .lookup T mm x ok→HI w F m H fz→(∀ x,Rep w F m H (ρ x) (ρc x)) →
   ∃ u,(execOp ρc o).run P w = .ok (.value (if ok then .tuple #[u,.bool (AR (α:=ka.den) es key).isSome]else u)) w∧Bn w F b' ((AR (α:=ka.den) es key).getD b'.zero) u:=by
  intro w F m ρc o hop hi hr
  have hrm:=hr mm
  rw[hm]at hrm
  unfold Rep at hrm
  rw[ho]at hrm
  obtain⟨bb,c,e1,e2⟩:=hrm
  obtain⟨b2,c',ms,clock,e3,e4,e5,_⟩:=hi.obj id _ ho
  rw[e1]at e3;cases e3
  have hkv:ρc x=CG ka key:=(hK.rep _ _ _ _).1 (DK hi hx (hr x))
  have hck:=hK.check w ms.isEmpty key
  rcases hK.find w F _ key es ms.toList e5 with⟨_,q1,q2⟩|⟨y,n,me,_,q1,q2,q3,q4,_⟩
  ·refine⟨z,?_,by rw[q1];exact M3 hok hza⟩
   rw[q1]
   simp only[execOp,hop,e2,hkv,Instr.lookup,Sem.run_bind,run_underlying hu,Result.andThen_ok,Bk e4,hck,q2,BO hi0 hz0,Sem.run_pure]
   simp
  ·refine⟨me.val,?_,by grind⟩
   rw[q1]
   simp only[execOp,hop,e2,hkv,Instr.lookup,Sem.run_bind,run_underlying hu,Result.andThen_ok,Bk e4,hck,q2,Sem.run_pure]
   simp
 split at h;refine⟨_,_,h,fun R' k'=>by simp only[evalOp,Ds,hu,hm,ho,hkt,hz,Apy,hx],AS fun w F m ρc o hop hty hi hr => ?_⟩;obtain⟨u,h1,h2⟩:=main w F m ρc o hop hi hr;refine⟨_,h1,?_⟩;unfold Rep;refine⟨_,rfl,?_⟩;unfold AT;refine⟨u,_,rfl,by unfold Rep;exact h2,Mo (BH _)⟩;refine⟨_,_,h,fun R' k'=>by simp only[evalOp,Ds,hu,hm,ho,hkt,hz,Apy,hx],AS fun w F m ρc o hop hty hi hr => ?_⟩;obtain⟨u,h1,h2⟩:=main w F m ρc o hop hi hr;exact⟨u,h1,by unfold Rep;exact h2⟩;grind;grind;rename_i j ks e t xs ver ho;split at h;rename_i e' t' hk hsl hz;split at h;rename_i key fr he hx;refine⟨_,_,h,fun R' k'=>by simp only[evalOp,Ds,hu,hm,ho,hk,hsl,hz,he,hx],AS fun w F m ρc o hop hty hi hr => ?_⟩;simp only[Aps]at hk he;simp only[Apt,Aqz,Aqs]at hz;obtain⟨⟨⟨b',cs'⟩,hz⟩,rfl⟩:=hz;obtain⟨hty',hcs',i,z,hi0,hz0,hok,hsz,hza⟩:=Bl hz;subst hcs';obtain⟨hu2,hty2,hpos2⟩:=By hsl;have htt:∃ y,b' = .slice y:=by unfold AEb UP at hty';rw[hu2]at hty';simp only[Ap2]at hty';grind
 obtain⟨y,rfl⟩:=htt;have hz1:z = .slice none 0 0:=by
  have h1:z.cells.toList=[.slice none 0 0]:=Be (w:=w) (F:=F) (.nul y) _ hok;cases z with
   |agg vs=>simp[Oo,Ty.isAgg]at hza
   |_=>simp[Value.cells]at h1<;>first|exact h1|grind
 have hrm:=hr mm;rw[hm]at hrm;unfold Rep at hrm;rw[ho]at hrm;obtain⟨bb,c,e1,e2⟩:=hrm;obtain⟨_,e3⟩:=hi.obj id _ ho;rw[e1]at e3;obtain⟨ms,clock,e4,e5,e6,e7,_⟩:=e3;have e7:=e7.resolve_right fun h=>by cases h.1
 have hkv:ρc x = .int j key:=Px (DK hi hx (hr x));have hku:=Gp hk;have hck:=(QM hku).check w ms.isEmpty key;have hck:(Instr.checkKey ms.isEmpty 10000 kt (.int j key)).run P w = .ok () w:=hck;rcases ACz (w:=w) hku key e6 with⟨q1,q2⟩|⟨me,q1,q2,q3,q4,q5⟩
 refine⟨.slice none 0 0,?_,?_⟩;simp only[execOp,hop,e2,hkv,Instr.lookup,Sem.run_bind,run_underlying hu,Result.andThen_ok,Bk e4,hck,q2,BO hi0 hz0,Sem.run_pure,hz1];rfl;unfold Rep;rw[ho];exact⟨rfl,Ap1 _,fun _=>.inr ⟨rfl,by omega,rfl⟩⟩;obtain⟨b3,c3,u,r1,⟨ms',clock',en,r2,r3,r4⟩,r5⟩:=AJU hi ho (k:=G8 ks key) (by omega);rw[e1]at r1;cases r1;rw[e4]at r2;cases r2;rw[q2]at r3;cases r3;subst r4;refine⟨me.val,?_,r5⟩;simp only[execOp,hop,e2,hkv,Instr.lookup,Sem.run_bind,run_underlying hu,Result.andThen_ok,Bk e4,hck,q5,Sem.run_pure];rfl;grind;grind;grind;rename_i kt vt j b es hu hm;split at h;rename_i b' cs' hk hz;split at h;rename_i key fr hb hx;have hb0:=hb;have hk0:=hk;simp only[Apt,Aps,Aqz]at hb;simp only[Aps]at hk;obtain⟨hb,hag⟩:=hb;subst hb;obtain⟨hty',hcs',i,z,hi0,hz0,hok,hsz,hza⟩:=Bl hz;subst hcs';have hku:=Gp hk
 have main:∀ (w:World) (F:Nat→Prop) (m:Mp) (ρc:Operand→Value) (o:Oper),o.op = .lookup T mm x ok→HI w F m H fz→(∀ x,Rep w F m H (ρ x) (ρc x)) →
   ∃ u,(execOp ρc o).run P w = .ok (.value (if ok then .tuple #[u,.bool (AR (α:=Int) es key).isSome]else u)) w∧Bn w F b' ((AR (α:=Int) es key).getD b'.zero) u:=by
  intro w F m ρc o hop hi hr
  have hrm:=hr mm
  rw[hm]at hrm
  have hrm:Dat w F (.mapi j b') es [ρc mm]:=hrm
  obtain⟨bb,ms,clock,e2,e3,e4,e5⟩:=hrm
  simp only[AqF,AsB]at e2
  have hkv:ρc x = .int j key:=Px (DK hi hx (hr x))
  have hck:=(QM hku).check w ms.isEmpty key
  have hck:(Instr.checkKey ms.isEmpty 10000 kt (.int j key)).run P w = .ok () w:=hck
  rcases Aa4 (w:=w) hku key e5 with⟨q1,q2⟩|⟨y,n,me,q1,q2,q4⟩
  ·refine⟨z,?_,by rw[q1];exact M3 hok hza⟩
   rw[q1]
   simp only[execOp,hop,e2,hkv,Instr.lookup,Sem.run_bind,run_underlying hu,Result.andThen_ok,Bk e4,hck,q2,BO hi0 hz0,Sem.run_pure]
   simp
  ·refine⟨me.val,?_,by rw[q1];unfold Bn;grind⟩
   rw[q1]
   simp only[execOp,hop,e2,hkv,Instr.lookup,Sem.run_bind,run_underlying hu,Result.andThen_ok,Bk e4,hck,q2,Sem.run_pure]
   simp
 split at h;refine⟨_,_,h,fun R' k'=>by simp only[evalOp,Ds,hu,hm,hk0,hz,Apy,hag,Aqb,Aqr,hx],AS fun w F m ρc o hop hty hi hr => ?_⟩;obtain⟨u,h1,h2⟩:=main w F m ρc o hop hi hr;refine⟨_,h1,?_⟩;unfold Rep;refine⟨_,rfl,?_⟩;unfold AT;refine⟨u,_,rfl,by unfold Rep;exact h2,Mo (BH _)⟩;refine⟨_,_,h,fun R' k'=>by simp only[evalOp,Ds,hu,hm,hk0,hz,Apy,hag,Aqb,Aqr,hx],AS fun w F m ρc o hop hty hi hr => ?_⟩;obtain⟨u,h1,h2⟩:=main w F m ρc o hop hi hr;exact⟨u,h1,by unfold Rep;exact h2⟩;grind;grind;grind
theorem DA{w:World}{r:Nat}{ms ms':Array MapEntry}{clock clock':Nat}(h:w.heap[r]? = some (.map ms clock)):
  (setObj r (.map ms' clock')).run P w = .ok () { w with heap:=w.heap.setIfInBounds r (.map ms' clock') }:=by simp[setObj,Sem.run,h]
theorem GL.push{ms:Array MapEntry}{clock:Nat}(h:GL ms clock)(key val:Value):GL (ms.push { key:=key,val:=val,born:=clock }) (clock+1):=by obtain⟨h1,h2⟩:=h;refine⟨by grind,fun i e he => ?_⟩;grind
theorem GL.modify{ms:Array MapEntry}{clock:Nat}(h:GL ms clock)(n:Nat){f:MapEntry→MapEntry}(hf:∀ e,(f e).born=e.born):GL (ms.modify n f) clock:=by obtain⟨h1,h2⟩:=h;refine⟨by grind,fun i e he => ?_⟩;grind
theorem VP(T:TypeId)(mm x y:Operand):Claim P E (.mapUpdate T mm x y):=by
 intro R ty ρ H fz slot k r h
 simp only[evalOp,Ex]at h
 split at h
 ·rename_i kt vt id hu hm
  split at h
  ·rename_i ka b es ho
   split at h
   ·rename_i key fr0 val fr hkt hx hy
    refine⟨_,_,h,fun R' k'=>by simp only[evalOp,Ex,hu,hm,ho,hkt,hx,hy],EC fun w F m ρc o hop hty hi hr => ?_⟩
    have hkt':=hkt
    simp only[Aps]at hkt'
    have hK:=QN hkt'
    have hgf:=Af.freeze hi fr
    have hrm:=hr mm
    rw[hm]at hrm
    unfold Rep at hrm
    rw[ho]at hrm
    obtain⟨bb,c,e1,e2⟩:=hrm
    obtain⟨b2,c',ms,clock,e3,e4,e5,e6⟩:=hgf.2.obj id _ ho
    rw[e1]at e3;cases e3
    have hkv:ρc x=CG ka key:=(hK.rep _ _ _ _).1 (DK hi hx (hr x))
    have hvd:=DK hi hy (hr y)
    have hck:=hK.check w false key
    have hst:=hK.stays w key
    have hlt:=BW e4
    have main:∀ (ms':Array MapEntry) (clock':Nat),Iy w (DF F m H fr) ka b (Ae (α:=ka.den) es key val) ms'.toList→GL ms' clock' →
      Af w (DF F m H fr) m H (AY fr fz) { w with heap:=w.heap.setIfInBounds bb (.map ms' clock') } (DF F m H fr) m (H.set id (.map ka b (Ae (α:=ka.den) es key val))) (AY fr fz):=by
     intro ms' clock' he hbo
     refine Af.set hgf.2 (Et ho) e1 ho trivial rfl rfl rfl (by simp) (fun k hk=>by grind) fun _ => ?_
     refine⟨bb,c,ms',clock',e1,by grind,?_,hbo⟩
     refine he.mono (fun a ha => ?_) (fun _ h=>h)
     have:a≠bb:=by rintro rfl;exact hgf.2.off id _ c (Et ho) e1 ha
     grind
    obtain⟨s1,s2⟩:=hK.store key val _ hvd e5
    rcases hK.find w _ _ key es ms.toList e5 with⟨q1,_,q2⟩|⟨y',n,me,q1,_,q2,q3,q4,q5⟩
    ·have hg:=main (ms.push { key:=CG ka key,val:=ρc y,born:=clock }) (clock+1) (by grind) (e6.push _ _)
     refine⟨_,_,m,?_,hgf.trans hg⟩
     simp only[execOp,hop,e2,hkv,Instr.mapUpdate,Sem.run_bind,run_underlying hu,Result.andThen_ok,Bk e4,hck,q2,DA e4,Sem.run_pure]
    ·have hg:=main (ms.modify n fun e=>{ e with key:=CG ka key,val:=ρc y }) clock (by grind) (e6.modify _ fun _=>rfl)
     refine⟨_,_,m,?_,hgf.trans hg⟩
     have hgetn:ms[n]? = some me:=by grind
     have hold:(((ms[n]?).map (·.key)).getD (CG ka key))=CG ka key:=by grind
     simp only[execOp,hop,e2,hkv,Instr.mapUpdate,Sem.run_bind,run_underlying hu,Result.andThen_ok,Bk e4,hck,q2,hold,hst,DA e4,Sem.run_pure]
   grind
  ·rename_i j ks e t xs ver i' ho
   split at h
   ·rename_i key fr id' i ver' hk hx hy
    split at h
    ·rename_i hid
     split at h
     ·rename_i hii
      refine⟨_,_,h,fun R' k'=>by simp only[evalOp,Ex,hu,hm,ho,hk,hx,hy,hid,hii],EC fun w F m ρc o hop hty hi hr => ?_⟩
      simp only[Apt,Aps]at hk hid
      obtain⟨hk,hun⟩:=hk
      obtain⟨rfl,rfl⟩:=hid
      simp only[Apt,Db,ArH]at hii
      obtain⟨h1,h2⟩:=hii
      have h1:i=i':=by omega
      have h2:G8 ks key=i':=by omega
      subst h1
      have hun':fz.getD id false=false:=by unfold AZ at hun;grind
      have hrm:=hr mm
      rw[hm]at hrm
      unfold Rep at hrm
      rw[ho]at hrm
      obtain⟨bb,c,e1,e2⟩:=hrm
      obtain⟨_,e3⟩:=hi.obj id _ ho
      rw[e1]at e3
      obtain⟨ms,clock,e4,e5,e6,e7,e8⟩:=e3
      have hkv:ρc x = .int j key:=Px (DK hi hx (hr x))
      have hku:=Gp hk
      have hck:(Instr.checkKey false 10000 kt (.int j key)).run P w = .ok () w:=(QM hku).check w false key
      have hst:(Instr.keyThatStays (.int j key) (.int j key)).run P w = .ok (.int j key) w:=(QM hku).stays w key
      have hry:=hr y
      rw[hy]at hry
      unfold Rep at hry
      rw[ho]at hry
      obtain⟨hone,_,h7⟩:=hry
      have h7:=h7 rfl
      have hlt:=BW e4
      have hmk:ms.toList.length=ks.length:=by have:=Aqx List.length e6;grind
      obtain⟨ys,hys,hrep⟩:∃ ys:List t.den,xs[i]? = some ys∧A4 (some (.arr 0 t ys)) (m (.r id i)) (ρc y):=by
       grind
      have main:∀ (ms':Array MapEntry) (clock':Nat),GL ms' clock'→ms'.toList.map (·.key)=(VG ks i key).map (Value.int j)→xs.length=(VG ks i key).length→(∃ en,ms'.toList[i]? = some en∧en.val=ρc y)→(∀ k' en,k'≠i→ms.toList[k']? = some en→∃ en',ms'.toList[k']? = some en'∧en'.val=en.val) →
        Af w F m H fz { w with heap:=w.heap.setIfInBounds bb (.map ms' clock') } F m (H.set id (.rows (.map j (VG ks i key)) e t xs ver none)) fz:=by
       intro ms' clock' hbo hks hxl hat hoth
       refine Af.Ao4 hi ho hun' hys rfl e1 hrep rfl rfl rfl (by simp) (fun k hk=>by grind) (fun _=>⟨⟨ms',clock',by grind,hbo,hks,.inl hxl,fun k h=>by cases h⟩,?_⟩) ?_
       ·obtain⟨en,q1,q2⟩:=hat
        exact⟨ms',clock',en,by grind,q1,q2⟩
       ·rintro k' v hne ⟨ms2,clock2,en,q1,q2,q3⟩
        rw[e4]at q1;cases q1
        obtain⟨en',q4,q5⟩:=hoth k' en hne q2
        exact⟨ms',clock',en',by grind,q4,q5.trans q3⟩
      rcases ACz (w:=w) hku key e6 with⟨q1,q2⟩|⟨me,q1,q2,q3,q4,q5⟩
      ·have hxl:xs.length=ks.length+1:=by
        grind
       have hdp:VG ks i key=ks++[key]:=by unfold VG;grind
       have hg:=main (ms.push { key:=.int j key,val:=ρc y,born:=clock }) (clock+1) (e5.push _ _) (by grind) (by grind)
        ⟨_,by rw[Array.toList_push,AqV (by omega),show i-ms.toList.length=0 from by omega];rfl,rfl⟩
        (fun k' en hne hk'=>⟨en,by grind,rfl⟩)
       refine⟨_,F,m,?_,hg⟩
       simp only[execOp,hop,e2,hkv,Instr.mapUpdate,Sem.run_bind,run_underlying hu,Result.andThen_ok,Bk e4,hck,q2,DA e4,Sem.run_pure]
      ·have hilt:i<ks.length:=by omega
       have hxl:xs.length=ks.length:=by
        grind
       have hdp:VG ks i key=ks:=by
        unfold VG
        rw[Ap5 hilt]
        apply Ark
        grind
       rw[h2]at q2 q5
       have hgetn:ms[i]? = some me:=by grind
       have hg:=main (ms.modify i fun e=>{ e with key:=.int j key,val:=ρc y }) clock (e5.modify _ fun _=>rfl) (by
         rw[hdp,← e6,Array.toList_modify]
         apply Ark
         grind) (by grind)
        ⟨_,by rw[Array.toList_modify,List.getElem?_modify,q2];simp only[AqP];rfl,rfl⟩
        (fun k' en hne hk'=>⟨en,by grind,rfl⟩)
       refine⟨_,F,m,?_,hg⟩
       have hold:(((ms[i]?).map (·.key)).getD (.int j key)) = .int j key:=by grind
       simp only[execOp,hop,e2,hkv,Instr.mapUpdate,Sem.run_bind,run_underlying hu,Result.andThen_ok,Bk e4,hck,q5,hold,hst,DA e4,Sem.run_pure]
     grind
    grind
   grind
  grind
 grind
theorem AGp(T:TypeId)(mm x y:Operand):Claim P E (.insert T mm x y):=by
 intro R ty ρ H fz slot k r h;simp only[evalOp,MT]at h;split at h;rename_i kt vt id hu hm;split at h;rename_i ka b es ho;split at h;rename_i key fr0 val fr hkt hx hy;refine⟨_,_,h,fun R' k'=>by simp only[evalOp,MT,hu,hm,ho,hkt,hx,hy],EC fun w F m ρc o hop hty hi hr => ?_⟩;have hkt':=hkt;simp only[Aps]at hkt';have hK:=QN hkt';have hgf:=Af.freeze hi fr;have hrm:=hr mm;rw[hm]at hrm;unfold Rep at hrm;rw[ho]at hrm;obtain⟨bb,c,e1,e2⟩:=hrm;obtain⟨b2,c',ms,clock,e3,e4,e5,e6⟩:=hgf.2.obj id _ ho;rw[e1]at e3;cases e3;have hkv:ρc x=CG ka key:=(hK.rep _ _ _ _).1 (DK hi hx (hr x));have hvd:=DK hi hy (hr y);have hck:=hK.check w false key;have hst:=hK.stays w key;have hlt:=BW e4
 have main:∀ (ms':Array MapEntry) (clock':Nat),Iy w (DF F m H fr) ka b (Ae (α:=ka.den) es key val) ms'.toList→GL ms' clock' →
   Af w (DF F m H fr) m H (AY fr fz) { w with heap:=w.heap.setIfInBounds bb (.map ms' clock') } (DF F m H fr) m (H.set id (.map ka b (Ae (α:=ka.den) es key val))) (AY fr fz):=by
  intro ms' clock' he hbo
  refine Af.set hgf.2 (Et ho) e1 ho trivial rfl rfl rfl (by simp) (fun k hk=>by grind) fun _ => ?_
  refine⟨bb,c,ms',clock',e1,by grind,?_,hbo⟩
  refine he.mono (fun a ha => ?_) (fun _ h=>h)
  have:a≠bb:=by rintro rfl;exact hgf.2.off id _ c (Et ho) e1 ha
  grind
 obtain⟨s1,s2⟩:=hK.store key val _ hvd e5;rcases hK.find w _ _ key es ms.toList e5 with⟨q1,_,q2⟩|⟨y',n,me,q1,_,q2,q3,q4,q5⟩
 have hg:=main (ms.push { key:=CG ka key,val:=ρc y,born:=clock }) (clock+1) (by grind) (e6.push _ _);refine⟨_,_,m,?_,hgf.trans hg⟩;simp only[execOp,hop,e2,hkv,Instr.mapUpdate,Sem.run_bind,run_underlying hu,Result.andThen_ok,Bk e4,hck,q2,DA e4,Sem.run_pure];have hg:=main (ms.modify n fun e=>{ e with key:=CG ka key,val:=ρc y }) clock (by grind) (e6.modify _ fun _=>rfl);refine⟨_,_,m,?_,hgf.trans hg⟩;have hgetn:ms[n]? = some me:=by grind
 have hold:(((ms[n]?).map (·.key)).getD (CG ka key))=CG ka key:=by grind
 simp only[execOp,hop,e2,hkv,Instr.mapUpdate,Sem.run_bind,run_underlying hu,Result.andThen_ok,Bk e4,hck,q2,hold,hst,DA e4,Sem.run_pure];grind;grind;grind
theorem AFh{ms:Array MapEntry}{n:Nat}{me:MapEntry}(h:ms[n]? = some me){f g:MapEntry→MapEntry}(he:f me=g me):ms.modify n f=ms.modify n g:=by grind
theorem Yt(T:TypeId)(mm x:Operand):Claim P E (.mapEntry T mm x):=by
 intro R ty ρ H fz slot k r h;simp only[evalOp,GC]at h;split at h;rename_i kt vt id hu hm;split at h;rename_i ka b es ho;split at h;rename_i b' cs' key fr hkt hz hx;split at h;rename_i hb;simp only[Aps]at hb;subst hb;refine⟨_,_,h,fun R' k'=>by simp only[evalOp,GC,hu,hm,ho,hkt,hz,hx,Apy],A0 fun w F m ρc o hop hty hi hr => ?_⟩;have hkt':=hkt;simp only[Aps]at hkt';have hK:=QN hkt';obtain⟨hty',hcs',i,z,hi0,hz0,hok,hsz,hza⟩:=Bl hz;subst hcs';have hrm:=hr mm;rw[hm]at hrm;unfold Rep at hrm;rw[ho]at hrm;obtain⟨bb,c,e1,e2⟩:=hrm;obtain⟨b2,c',ms,clock,e3,e4,e5,e6⟩:=hi.obj id _ ho;rw[e1]at e3;cases e3;have hkv:ρc x=CG ka key:=(hK.rep _ _ _ _).1 (DK hi hx (hr x));have hck:=hK.check w false key;have hst:=hK.stays w key;have hlt:=BW e4
 have main:∀ (val:b'.den) (ms':Array MapEntry) (clock':Nat),Iy w F ka b' (Ae (α:=ka.den) es key val) ms'.toList→GL ms' clock' →
   Af w F m H fz { w with heap:=w.heap.setIfInBounds bb (.map ms' clock') } F m (H.set id (.map ka b' (Ae (α:=ka.den) es key val))) fz:=by
  intro val ms' clock' he hbo
  refine Af.set hi (Et ho) e1 ho trivial rfl rfl rfl (by simp) (fun k hk=>by grind) fun _ => ?_
  refine⟨bb,c,ms',clock',e1,by grind,?_,hbo⟩
  refine he.mono (fun a ha => ?_) (fun _ h=>h)
  have:a≠bb:=by rintro rfl;exact hi.off id _ c (Et ho) e1 ha
  grind
 have tup:∀ (d:b'.den) (u:Value) (n:Nat),Bn w F b' d u→Rep w F m H (.tup [.data b' d,.data (.int .i64) (n:Int)]) (.tuple #[u,goInt (n:Int)]):=by intro d u n hd;unfold Rep;refine⟨_,rfl,?_⟩;unfold AT;exact⟨u,_,rfl,by unfold Rep;exact hd,Mo (Ar _ _)⟩
 have hlen:=Ya e5;rcases hK.find w _ _ key es ms.toList e5 with⟨q1,q0,q2⟩|⟨y',n,me,q1,q0,q2,q3,q4,q5⟩
 obtain⟨s1,_⟩:=hK.store key b'.zero z (M3 hok hza) e5;have hg:=main b'.zero (ms.push { key:=CG ka key,val:=z,born:=clock }) (clock+1) (by grind) (e6.push _ _);have hp:AAC (α:=ka.den) es key=(clock:Int):=by unfold AAC;rw[q1,e6.1];grind
 rw[q0,Option.getD_none,hp];refine⟨_,_,F,m,?_,hg,hg.1.rep hi (tup b'.zero z clock (M3 hok hza))⟩;simp only[execOp,hop,e2,hkv,Instr.mapEntry,Sem.run_bind,run_underlying hu,Result.andThen_ok,Bk e4,hck,q2,BO hi0 hz0,DA e4,Sem.run_pure];obtain⟨_,s2⟩:=hK.store key y' me.val q4 e5;have hgetn:ms[n]? = some me:=by grind
 have hmod:(ms.modify n fun e=>{ e with key:=CG ka key,val:=me.val })=ms.modify n fun e=>{ e with key:=CG ka key }:=AFh hgetn rfl;have hg:=main y' (ms.modify n fun e=>{ e with key:=CG ka key,val:=me.val }) clock (by grind) (e6.modify _ fun _=>rfl);rw[hmod]at hg;have hp:AAC (α:=ka.den) es key=(n:Int):=by unfold AAC;grind
 rw[q0,AqK,hp];have hold:(((ms[n]?).map (·.key)).getD (CG ka key))=CG ka key:=by grind
 have hbn:(((ms[n]?).map fun x=>(x.born:Int)).getD 0)=(n:Int):=by rw[hgetn];show(me.born:Int)=n;rw[e6.2 n me hgetn]
 refine⟨_,_,F,m,?_,hg,hg.1.rep hi (tup y' me.val n q4)⟩;simp only[execOp,hop,e2,hkv,Instr.mapEntry,Sem.run_bind,run_underlying hu,Result.andThen_ok,Bk e4,hck,q2,hold,hst,hbn,DA e4,Sem.run_pure];grind;grind;grind;grind
theorem AhP{w:World}{F:Nat→Prop}{a b:Ty}(val:b.den)(v:Value)(hv:Bn w F b val v):∀ {es:List (a.den×b.den)} {ms:List MapEntry} (n:Nat),Iy w F a b es ms→Iy w F a b (es.modify n fun e=>(e.1,val)) (ms.modify n fun e=>{ e with val:=v }):=by
 intro es;induction es with
  |nil=>rintro ms n rfl;cases n<;>rfl
  |cons e es ih=>
   rintro ms n ⟨me,ms',rfl,⟨h1,h2⟩,h3⟩;cases n with
    |zero=>exact⟨_,ms',rfl,⟨h1,hv⟩,h3⟩
    |succ n=>exact⟨me,_,rfl,⟨h1,h2⟩,ih n h3⟩
theorem Aa5{ms:Array MapEntry}{clock:Nat}(h:GL ms clock){i:Nat}(hi:i<ms.size):ms.findIdx? (fun e=>(e.born:Int)==(i:Int))=some i:=by rw[Array.findIdx?_eq_some_iff_getElem];refine⟨hi,?_,fun j hj => ?_⟩;have:=h.2 i ms[i] (by simp[hi]);grind;have:=h.2 j ms[j] (by simp);grind
theorem Sq(T:TypeId)(mm s y:Operand):Claim P E (.entryStore T mm s y):=by
 intro R ty ρ H fz slot k r h;simp only[evalOp,FP]at h;split at h
 ·rename_i id i0 hm hs;split at h
  ·rename_i ka b es ho;split at h
   ·rename_i val fr hy;split at h;rotate_left;cases h;rename_i hc;refine⟨_,_,h,fun R' k'=>by simp only[evalOp,FP,hm,hs,ho,hy,hc],EC fun w F m ρc o hop hty hi hr => ?_⟩;have hgf:=Af.freeze hi fr;have hrm:=hr mm;rw[hm]at hrm;unfold Rep at hrm;rw[ho]at hrm;obtain⟨bb,c,e1,e2⟩:=hrm;obtain⟨b2,c',ms,clock,e3,e4,e5,e6⟩:=hgf.2.obj id _ ho;rw[e1]at e3;cases e3;have hrs:=hr s;rw[hs]at hrs;unfold Rep at hrs;have hsv:=Px hrs;have hvd:=DK hi hy (hr y);have hlt:=BW e4;have hlen:=Ya e5;rw[AqG]at hlen;rw[Apt,Ao,Ab,Arc,Arc]at hc;obtain⟨n,rfl⟩:=Ap7 hc.1;have hn:n<ms.size:=by have:=hc.2;unfold AH at this;omega
    have hfi:=Aa5 e6 hn;have hg:Af w (DF F m H fr) m H (AY fr fz) { w with heap:=w.heap.setIfInBounds bb (.map (ms.modify n fun e=>{ e with val:=ρc y }) clock) } (DF F m H fr) m (H.set id (.map ka b (AZw es (n:Int) val))) (AY fr fz):=by
     refine Af.set hgf.2 (Et ho) e1 ho trivial rfl rfl rfl (by simp) (fun k hk=>by grind) fun _ => ?_;refine⟨bb,c,ms.modify n fun e=>{ e with val:=ρc y },clock,e1,by grind,?_,e6.modify n fun _=>rfl⟩;have he:Iy w (DF F m H fr) ka b (es.modify n fun e=>(e.1,val)) (ms.modify n fun e=>{ e with val:=ρc y }).toList:=by rw[Array.toList_modify];exact AhP val (ρc y) hvd n e5
     unfold AZw;rw[AqW];refine he.mono (fun a ha => ?_) (fun _ h=>h);have:a≠bb:=by rintro rfl;exact hgf.2.off id _ c (Et ho) e1 ha
     grind
    refine⟨_,_,m,?_,hgf.trans hg⟩;simp only[execOp,hop,e2,hsv,Instr.entryStore,Sem.run_bind,Result.andThen_ok,Bk e4,asInt,asIntOf,Sem.run_pure,hfi,DA e4]
   grind
  grind
 grind
theorem ED(hE:∀ g,Ak P g (E.spec g))(o:Op):Claim P E o:=by
 cases o with
  |move x=>exact ASw x
  |assign x=>exact AGq x
  |pick c a b=>exact ASv c a b
  |alloc T=>exact AMG T
  |box T x=>exact Abw T x
  |build T parts=>exact AME T parts
  |buildSlice T len parts=>exact Sr T len parts
  |load T x=>exact ASx T x
  |store T x y=>exact AMA T x y
  |nilCheck x=>exact Ys x
  |binOp op T x y T'=>exact AMF op T x y T'
  |unOp op T x=>exact ASu op T x
  |convert S T x=>exact AAv S T x
  |makeFunc fn first cs=>exact Yu fn first cs
  |makeMap T r=>exact AAt T r
  |makeSlice T x y=>exact VQ T x y
  |slice T x lo up mx=>
   cases mx with
    |none=>exact Sp T x lo up
    |some mx=>exact VO T x lo up mx
  |fieldAddr T x f=>exact VS T x f
  |field T x f=>exact AMC T x f
  |indexAddr T x y=>exact VR T x y
  |index T x y=>exact AMB T x y
  |lookup T m x ok=>exact AGo T m x ok
  |mapUpdate T m x y=>exact VP T m x y
  |insert T m x y=>exact AGp T m x y
  |mapEntry T m x=>exact Yt T m x
  |entryStore T m s y=>exact Sq T m s y
  |extract x i=>exact AAu x i
  |makeInterface T x=>exact Nw T x
  |typeAssert x T T' ok=>exact So x T T' ok
  |call c=>
   obtain⟨callee,args,ts⟩:=c;cases callee with
    |value f=>exact ASy hE f args ts
    |invoke r n=>intro R ty ρ H fz slot k r h;simp[evalOp,Ji]at h
    |builtin b=>
     cases b with
      |len=>exact Abu args ts
      |append=>exact AGr args ts
      |cap=>exact Abv args ts
      |min=>exact Abs args ts
      |max=>exact Abt args ts
      |clear=>exact AMD args ts
      |_=>intro R ty ρ H fz slot k r h;simp[evalOp,HZ]at h
  |_=>intro R ty ρ H fz slot k r h;simp[evalOp,HZ]at h
end
end Go.Pev
end
section
namespace Go.Pev
open Go.RowKit
class DfI where
 d:List Deferred
instance noDf:DfI:=⟨[]⟩
structure SI[DfI](w:World)(F:Nat→Prop)(m:Mp)(st:St)(a:Act):Prop where
 tmps:∀ t,Rep w F m st.heap (st.tmps.f t) (a.tmps.getD t undef)
 size:st.tmps.n=a.tmps.size
 heap:HI w F m st.heap st.frz
 defers:a.defers=DfI.d
def AmR[DfI]{R:Type}(r:R)(k:St→Option R)(w:World)(F:Nat→Prop)(m:Mp)(H:List Ob)(fz:List Bool)(a':Act)(w':World):Prop:=
 ∃ st' F' m',k st'=some r∧SI w' F' m' st' a'∧Ext w F m H fz w' F' m' st'.heap st'.frz
section
variable [DfI] {P:Program} {E:Env} {R:Type} {r:R}
theorem SI.put{w:World}{F:Nat→Prop}{m:Mp}{st:St}{a:Act}(h:SI w F m st a){v:AV}{u:Value}(hr:Rep w F m st.heap v u)(d:Option Tmp):SI w F m (st.put d v) (a.put d u):=by
 cases d with
  |none=>exact h
  |some d=>refine⟨fun t => ?_,by simp[St.put,Tm.set,Act.put,h.size],h.heap,h.defers⟩;simp only[St.put,Act.put,Tm.TJ];have:=h.tmps t;rw[AqM]at this ⊢;by_cases htd:t=d;subst htd;by_cases hlt:t<st.tmps.n;have hlt':t<a.tmps.size:=h.size▸hlt;grind;have hlt':¬ t<a.tmps.size:=h.size▸hlt;grind;grind
theorem SI.go{w w':World}{F F':Nat→Prop}{m m':Mp}{st:St}{a:Act}(h:SI w F m st a){e:Eff}(hg:Af w F m st.heap st.frz w' F' m' (CH e st.heap) (EY e st.frz)):SI w' F' m' (st.app e) a:=
 ⟨fun t=>hg.1.rep h.heap (h.tmps t),h.size,hg.2,h.defers⟩
theorem SI.lit{w:World}{F:Nat→Prop}{m:Mp}{st:St}{a:Act}(h:SI w F m st a){d:Nat}{b:Bool}(hd:st.tmps.f d = .data .bool b):SI w F m { st with tmps:=st.tmps.set d (.data .bool b) } a:=by rw[Tm.Lt hd];exact h
theorem OI{w:World}{F:Nat→Prop}{m:Mp}{st:St}{a:Act}(h:SI w F m st a){ops:Array Oper}{j d:Nat}(hj:(ops.toList[j]?).bind (·.dst)=some d){b:Bool}(hd:st.tmps.f d = .data .bool b):
  yielded ops a.tmps j=some b:=by
 have hr:=h.tmps d;rw[hd]at hr;have hb:=Cx hr;have hlt':d<a.tmps.size:=by rcases Aru d a.tmps.size with h'|h';exact h';rw[AqM,Array.getElem?_eq_none h']at hb;cases hb
 rw[AqM,Aq9 hlt']at hb;simp only[AqK]at hb;have hj':(ops[j]?).bind (·.dst)=some d:=by grind
 unfold yielded;grind
theorem Pk{w:World}{F:Nat→Prop}{m:Mp}{H:List Ob}:Rep w F m H Ba undef:=by unfold Ba Rep;exact⟨#[],rfl,by unfold AT;rfl⟩
theorem PN{w:World}{F:Nat→Prop}{m:Mp}{st:St}{a:Act}(h:SI w F m st a){ops:Array Oper}{j d:Nat}(hj:(ops.toList[j]?).bind (·.dst)=some d)(hd:st.tmps.f d = .tup []):
  yielded ops a.tmps j=none:=by
 have hr:=h.tmps d;rw[hd]at hr;have hj':(ops[j]?).bind (·.dst)=some d:=by grind
 unfold yielded;rw[hj'];unfold Rep at hr;obtain⟨us,e,_⟩:=hr;rcases Aru d a.tmps.size with hlt'|hge;all_goals simp_all
theorem O8{w:World}{F:Nat→Prop}{m:Mp}{st:St}{a:Act}(h:SI w F m st a){ops:Array Oper}{o:Oper}{yes no:St→Option R}(hg:guarded R ops.toList o.guard st yes no=some r):
  ∃ st',SI w F m st' a∧st'.heap=st.heap∧st'.frz=st.frz∧((Region.wanted o (yielded ops a.tmps)=true∧yes st'=some r)∨(Region.wanted o (yielded ops a.tmps)=false∧no st'=some r)):=by unfold guarded at hg;split at hg;rename_i hgd;exact⟨st,h,rfl,rfl,.inl ⟨by simp[Region.wanted,hgd],hg⟩⟩;rename_i j want hgd;split at hg;cases hg;rename_i d hj;split at hg;rename_i b hd;have hy:=OI h hj hd;split at hg;split at hg;exact⟨_,h.lit hd,rfl,rfl,.inl ⟨by simp[Region.wanted,hgd,hy],hg⟩⟩;exact⟨_,h.lit hd,rfl,rfl,.inr ⟨by simp[Region.wanted,hgd,hy],hg⟩⟩;split at hg;exact⟨_,h.lit hd,rfl,rfl,.inr ⟨by simp[Region.wanted,hgd,hy],hg⟩⟩;exact⟨_,h.lit hd,rfl,rfl,.inl ⟨by simp[Region.wanted,hgd,hy],hg⟩⟩;rename_i hd;exact⟨st,h,rfl,rfl,.inr ⟨by simp[Region.wanted,hgd,PN h hj hd],hg⟩⟩;grind
theorem AZS(hE:∀ g,Ak P g (E.spec g)){ops:Array Oper}{Q:Exit→Act→World→Prop}{k:St→Option R}:∀ (rest pre:List Oper) (slot:Nat) (st:St) (w:World) (F:Nat→Prop) (m:Mp) (a:Act),ops.toList=pre++rest →
  E7 P E R ops.toList rest slot st k=some r→SI w F m st a→(∀ a' w',AmR r k w F m st.heap st.frz a' w'→Q .normal a' w')→wpOps P ops Q (List.range' pre.length rest.length) a w:=by
 intro rest;induction rest with
  |nil=>intro pre slot st w F m a _ h hs hq;exact hq a w ⟨st,F,m,h,hs,Ext.refl ..⟩
  |cons o rest ih=>
   intro pre slot st w F m a hops h hs hq;simp only[E7]at h;have hget:ops[pre.length]? = some o:=by rw[← Aqo,hops];simp
   have hops':ops.toList=(pre++[o])++rest:=by grind
   have hlen:(pre++[o]).length=pre.length+1:=by simp
   rw[Apw,ArF];simp only[wpOps,hget];obtain⟨st',hs',e1,e2,hh⟩:=O8 hs h;rcases hh with⟨hw,hy⟩|⟨hw,hn⟩
   rw[Ap5 hw];left;obtain⟨v,e,h1,_,h3⟩:=ED hE o.op R _ _ _ _ _ _ _ hy;refine h3 w F m a o _ Q rfl rfl hs'.heap (fun x=>EW hs'.tmps x) fun u w' F' m' hg hr => ?_;have hs2:=(hs'.go hg).put hr o.dst;have:=ih (pre++[o]) _ _ w' F' m' (a.put o.dst u) hops' h1 hs2 fun a' w'' ⟨st2,F2,m2,q1,q2,q3⟩=>hq a' w'' ⟨st2,F2,m2,q1,q2,by
    have hx:=hg.1;rw[e1,e2]at hx;refine hx.trans ?_;have:((st'.app e).put o.dst v).heap=CH e st.heap∧((st'.app e).put o.dst v).frz=EY e st.frz:=by cases o.dst<;>simp[St.put,St.app,e1,e2]
    grind⟩
   grind;rw[Ap4 (by simp[hw])];have hs2:SI w F m (st'.put o.dst Ba) (a.put o.dst undef):=hs'.put Pk o.dst;have:=ih (pre++[o]) _ _ w F m (a.put o.dst undef) hops' hn hs2 fun a' w'' ⟨st2,F2,m2,q1,q2,q3⟩=>hq a' w'' ⟨st2,F2,m2,q1,q2,by
    have:(st'.put o.dst Ba).heap=st.heap∧(st'.put o.dst Ba).frz=st.frz:=by cases o.dst<;>simp[St.put,e1,e2]
    grind⟩
   grind
theorem HI.pad{w:World}{F:Nat→Prop}{m:Mp}{H:List Ob}{fz:List Bool}(hi:HI w F m H fz)(n:Nat):Af w F m H fz w F m (H++List.replicate n .free) (fz++List.replicate n false):=by
 have hget:∀ i o,H[i]? = some o→(H++List.replicate n Ob.free)[i]? = some o:=fun i o h=>by rw[ArA (Aj h)];exact h
 have hget':∀ i o,(H++List.replicate n Ob.free)[i]? = some o→H[i]? = some o∨o=Ob.free:=fun i o h=>by rcases Aru i H.length with hl|hl;rw[ArA hl]at h;exact .inl h;grind
 have hfz:∀ i,(fz++List.replicate n false).getD i false=fz.getD i false:=fun i=>by grind
 have hown:∀ i:Ix,owned (H++List.replicate n .free) (fz++List.replicate n false) i→owned H fz i:=fun i ho=>by
  obtain⟨o,h1,h2,h3⟩:=DD ho;rcases hget' i.id o h1 with h4|h4;have ho:=(Cg (H:=H) (h1.trans h4.symm)).1 ho;cases i with
   |r i k=>simp only[owned]at *;grind
   |o i=>simp only[owned,Bv]at *;grind
  grind
 have hcomp:CQ H (H++List.replicate n .free) m m:=by
  intro i o ho hf;rcases CQ.refl H m i o ho hf with h|⟨hd,o',h1,h2,_⟩
  all_goals grind
 refine⟨⟨rfl,rfl,rfl,Ap1 _,fun _ _ _=>rfl,fun _ h=>h,fun _ h=>.inl h,fun i b c h1 h2=>.inl ⟨i,c,hown i h1,h2⟩,hcomp⟩,⟨?_,?_,?_,?_,?_,?_,hi.lt,hi.glo,by simp[hi.len]⟩⟩;intro id o ho;rcases hget' id o ho with h|rfl;exact ObI.mono (fun _ _=>rfl) (fun _ h=>h) hcomp (fun _ _ _ _ _ _=>rfl) (hi.obj id o h);trivial;intro i;cases ho:H[i]? with
  |none=>intro T e t xs ver out h1;grind
  |some o=>exact B7.mono (fun _ _=>rfl) (fun _ h=>h) hcomp ((hget i o ho).trans ho.symm) (fun _ _=>rfl) (fun _ _ _ _ _ _ _=>rfl) (hi.row i)
 intro i T e t xs ver out hio hf x hx ht b c hm;rw[hfz]at hf;rcases hget' i _ hio with h|h;exact hi.rfz i T e t xs ver out h hf x hx ((Ce (by grind)).1 ht) b c hm;grind;exact fun i k b c b' c' h1 h2=>hi.sep i k b c b' c' (hown i h1) (hown k h2);exact fun i b c h1=>hi.off i b c (hown i h1);intro i T t xs b c hio hf hmi;rw[hfz]at hf;rcases hget' i _ hio with h|h;exact hi.froz i T t xs b c h hf hmi;grind
theorem SI.pad{w:World}{F:Nat→Prop}{m:Mp}{st:St}{a:Act}(h:SI w F m st a)(n:Nat):SI w F m (st.pad n) a∧Ext w F m st.heap st.frz w F m (st.pad n).heap (st.pad n).frz:=by have hg:=h.heap.pad n;exact⟨⟨fun t=>hg.1.rep h.heap (h.tmps t),h.size,hg.2,h.defers⟩,hg.1⟩
theorem AFT(hE:∀ g,Ak P g (E.spec g)){id:Nat}{ops:Array Oper}{Q:Exit→Act→World→Prop}{k:St→Option R}{st:St}{w:World}{F:Nat→Prop}{m:Mp}{a:Act}(h:Fw P E R ops.toList st k=some r)(hs:SI w F m st a)
  (hq:∀ a' w',AmR r k w F m st.heap st.frz a' w'→Q .normal a' w'):(Code.region id ops false).wp P Q a w:=by unfold Fw at h;rw[N3]at h;obtain⟨h1,h2⟩:=hs.pad (B9 ops.toList);have:=AZS hE ops.toList [] _ _ w F m a (by simp) h h1 fun a' w' ⟨st',F',m',q1,q2,q3⟩=>hq a' w' ⟨st',F',m',q1,q2,h2.trans q3⟩;rw[Ap8,AqG,← Arn]at this;exact wp_region this
end
end Go.Pev
end
section
namespace Go.Pev
open Go.RowKit
theorem EG{H H':List Ob}(t:Ty)(v:AV)(h:∀ id∈Ag v,H[id]? = H'[id]?):Dy H t v=Dy H' t v:=by cases v<;>simp only[Dy];rename_i id;rw[h id (by simp[Ag])];rename_i id off n;rw[h id (by simp[Ag])];rename_i id;rw[h id (by simp[Ag])]
theorem ARr{α:Type}{one one':List AV→Option (α×List Nat×List AV)}{H H':List Ob}
  (h1:∀ cs,(∀ id∈BF cs,H[id]? = H'[id]?)→one cs=one' cs) (h2:∀ cs x f r,one cs=some (x,f,r)→∃ c0,cs=c0++r) :
  ∀ (n:Nat) (cs:List AV),(∀ id∈BF cs,H[id]? = H'[id]?)→QU one n cs=QU one' n cs:=by
 intro n;induction n with
  |zero=>intro cs _;rfl
  |succ n ih=>
   intro cs h;simp only[QU];rw[← h1 cs h];cases ho:one cs with
    |none=>rfl
    |some p=>
     obtain⟨x,f,r⟩:=p;simp only;obtain⟨c0,hc⟩:=h2 _ _ _ _ ho;rw[ih r fun id hid=>h id (by
      subst hc;clear ho;induction c0 with
       |nil=>exact hid
       |cons c c0 ih'=>simp only[AqJ,BF,Ap6];exact .inr (ih' fun id hid=>h id (by simp only[AqJ,BF,Ap6];grind)))]
theorem Aaf{α:Type}{one:List AV→Option (α×List Nat×List AV)}(h2:∀ cs x f r,one cs=some (x,f,r)→∃ c0,cs=c0++r):
  ∀ (n:Nat) (cs:List AV) (xs:List α) (f:List Nat) (r:List AV),QU one n cs=some (xs,f,r)→∃ c0,cs=c0++r:=by
 intro n;induction n with
  |zero=>intro cs xs f r h;simp only[QU,Apq,Ap9]at h;simp_all
  |succ n ih=>intro cs xs f r h;simp only[QU]at h;grind
theorem QV{H:List Ob}:∀ (t:Ty) (cs:List AV) (x:t.den) (f:List Nat) (r:List AV),Al H t cs=some (x,f,r)→∃ c0,cs=c0++r:=by
 intro t;induction t with
  |unit=>intro cs x f r h;simp only[Al,Apq,Ap9]at h;simp_all
  |bool=>
   intro cs x f r h;cases cs with
    |nil=>simp[Al]at h
    |cons c cs=>unfold Al at h;split at h;cases h;simp only[Apq,Ap9]at h;exact⟨[c],by grind⟩
  |int k=>
   intro cs x f r h;cases cs with
    |nil=>simp[Al]at h
    |cons c cs=>unfold Al at h;split at h;cases h;simp only[Apq,Ap9]at h;exact⟨[c],by grind⟩
  |slice e _=>
   intro cs x f r h;cases cs with
    |nil=>simp[Al]at h
    |cons c cs=>unfold Al at h;split at h;cases h;simp only[Apq,Ap9]at h;exact⟨[c],by grind⟩
  |nul e=>
   intro cs x f r h;cases cs with
    |nil=>simp[Al]at h
    |cons c cs=>unfold Al at h;split at h;cases h;simp only[Apq,Ap9]at h;exact⟨[c],by grind⟩
  |mapi j e _=>
   intro cs x f r h;cases cs with
    |nil=>simp[Al]at h
    |cons c cs=>unfold Al at h;split at h;cases h;simp only[Apq,Ap9]at h;exact⟨[c],by grind⟩
  |prod a b iha ihb=>intro cs x f r h;simp only[Al]at h;grind
  |arr n e ih=>intro cs x f r h;simp only[Al]at h;exact Aaf ih n cs _ _ _ h
theorem D7(a b:List AV):BF (a++b)=BF a++BF b:=by
 induction a with
  |nil=>rfl
  |cons x a ih=>simp[BF,ih]
theorem N4{H H':List Ob}:∀ (t:Ty) (cs:List AV),(∀ id∈BF cs,H[id]? = H'[id]?)→Al H t cs=Al H' t cs:=by
 intro t;induction t with
  |unit=>intro cs _;cases cs<;>rfl
  |bool=>
   intro cs h;cases cs with
    |nil=>rfl
    |cons c cs=>unfold Al;rw[EG .bool c fun id hid=>h id (by simp[BF,hid])]
  |int k=>
   intro cs h;cases cs with
    |nil=>rfl
    |cons c cs=>unfold Al;rw[EG (.int k) c fun id hid=>h id (by simp[BF,hid])]
  |slice e _=>
   intro cs h;cases cs with
    |nil=>rfl
    |cons c cs=>unfold Al;rw[EG (.slice e) c fun id hid=>h id (by simp[BF,hid])]
  |nul e=>
   intro cs h;cases cs with
    |nil=>rfl
    |cons c cs=>unfold Al;rw[EG (.nul e) c fun id hid=>h id (by simp[BF,hid])]
  |mapi j e _=>
   intro cs h;cases cs with
    |nil=>rfl
    |cons c cs=>unfold Al;rw[EG (.mapi j e) c fun id hid=>h id (by simp[BF,hid])]
  |prod a b iha ihb=>
   intro cs h;simp only[Al];rw[← iha cs h];cases hx:Al H a cs with
    |none=>rfl
    |some p=>obtain⟨x,f,r⟩:=p;simp only;obtain⟨c0,rfl⟩:=QV a _ _ _ _ hx;rw[ihb r fun id hid=>h id (by rw[D7];grind)]
  |arr n e ih=>intro cs h;simp only[Al];exact ARr ih (QV e) n cs h
theorem Bx{H H':List Ob}(t:Ty)(v:AV)(h:∀ id∈Ag v,H[id]? = H'[id]?):E0 H t v=E0 H' t v:=by unfold E0;split;cases v<;>simp only[asAgg];rename_i cs;rw[N4 t cs fun id hid=>h id (by simpa [Ag]using hid)];exact EG t v h
theorem Tw{H H':List Ob}(t:Ty)(v:AV)(h:∀ id∈Ag v,H[id]? = H'[id]?):Y3 H t v=Y3 H' t v:=by have h1:=Bx t v h;cases v<;>simp only[Y3]<;>first|exact h1|(rw[h1,h _ (by simp[Ag])])
structure Re(T:List Nat)(slot n:Nat)(W:List Nat)(H H':List Ob)(fz fz':List Bool):Prop where
 heap:∀ id∈T,H[id]? = H'[id]?
 slotH:∀ s,slot≤s→s<slot+n→H[s]? = H'[s]?
 slotF:∀ s,slot≤s→s<slot+n→fz.getD s false=fz'.getD s false
 len:fz.length=fz'.length
 wrF:∀ id∈W,fz.getD id false=fz'.getD id false
theorem EA{T:List Nat}{slot n:Nat}{W:List Nat}{H H':List Ob}{fz fz':List Bool}(h:Re T slot n W H H' fz fz'){s:Nat}(h1:slot≤s)(h2:s<slot+n)(fr:List Nat):
  Aq H (AY fr fz) s=Aq H' (AY fr fz') s:=by unfold Aq;rw[h.slotH s h1 h2,Av,Av,h.slotF s h1 h2,h.len]
theorem Cr{T:List Nat}{slot n:Nat}{W:List Nat}{H H':List Ob}{fz fz':List Bool}(h:Re T slot n W H H' fz fz'){s:Nat}(h1:slot≤s)(h2:s<slot+n):
  Aq H fz s=Aq H' fz' s:=EA h h1 h2 []
theorem CR{T W:List Nat}{slot n:Nat}{H H':List Ob}{fz fz':List Bool}(h:Re T slot n W H H' fz fz'){id:Nat}(hid:id∈W)(fr:List Nat):
  AZ (AY fr fz) id=AZ (AY fr fz') id:=by unfold AZ;rw[Av,Av,h.wrF id hid,h.len]
def GN(s:Spec):Prop:=
 ∀ R args H H' fz fz' slot k,Re (BF args) slot 4 [] H H' fz fz'→s R args H fz slot k=s R args H' fz' slot k
def WX(S:List Nat)(H:List Ob):Prop:=∀ id∈S,∀ cs,H[id]? = some (.box cs)→∀ j∈BF cs,j∈S
def Hf(s:Spec):Prop:=
 ∀ R args H H' fz fz' slot k (S:List Nat),(∀ id∈BF args,id∈S)→WX S H→Re S slot 4 S H H' fz fz'→s R args H fz slot k=s R args H' fz' slot k
def D1(E:Env):Prop:=(∀ g,E.loc g=true→GN (E.spec g))∧∀ g,E.F7 g=true→Hf (E.spec g)
section
variable {P:Program} {E:Env}
theorem Ku{ρ ρ':Operand→AV}{l:List Operand}(h:∀ x∈l,ρ x=ρ' x):l.map ρ=l.map ρ':=List.map_congr_left h
theorem TQ{ρ ρ':Operand→AV}{l:List (Nat×Operand)}(h:∀ x∈l.map (·.2),ρ x=ρ' x):(l.map fun p=>(p.1,ρ p.2))=l.map fun p=>(p.1,ρ' p.2):=
 List.map_congr_left fun p hp=>by grind
theorem QS{ρ ρ':Operand→AV}{o:Option Operand}(h:∀ x∈o.toArray,ρ x=ρ' x):El ρ o=El ρ' o:=by
 cases o with
  |none=>rfl
  |some x=>simp only[El];grind
theorem B0{R:Type}{ρ ρ':Operand→AV}(o:Op)(ty:TypeId)(H:List Ob)(fz:List Bool)(slot:Nat)(k:AV→Eff→Option R)(h:∀ x∈o.operands,ρ x=ρ' x):
  evalOp P E R o ty ρ H fz slot k=evalOp P E R o ty ρ' H fz slot k:=by
 cases o with
  |call c=>
   obtain⟨callee,args,ts⟩:=c;cases callee with
    |value f=>have hf:=h f (by simp[Op.operands,Call.operands]);have ha:args.toList.map ρ=args.toList.map ρ':=Ku fun x hx=>h x (by simp[Op.operands,Call.operands];grind);simp only[evalOp,Ji,hf,ha]
    |invoke r n=>rfl
    |builtin b=>
     have ha:∀ x∈args.toList,ρ x=ρ' x:=fun x hx=>h x (by simp[Op.operands,Call.operands];grind);cases b with
      |len=>
       simp only[evalOp,MS];cases hl:args.toList with
        |nil=>rfl
        |cons x r=>cases r with
         |nil=>
          rw[hl]at ha
          cases ts.toList with
          |nil=>rfl
          |cons T r=>grind
         |cons y r=>rfl
      |append=>
       simp only[evalOp,C1];cases hl:args.toList with
        |nil=>rfl
        |cons x r=>cases r with
         |nil=>rfl
         |cons y r=>cases r with
          |nil=>
           rw[hl]at ha
           cases ts.toList with
           |nil=>rfl
           |cons T r=>cases r with
            |nil=>rfl
            |cons T' r=>cases r with
             |nil=>simp only[ha x (by simp),ha y (by simp)]
             |cons T'' r=>rfl
          |cons z r=>rfl
      |cap=>simp only[evalOp,AV4];grind
      |clear=>
       simp only[evalOp,HZ];cases hl:args.toList with
        |nil=>rfl
        |cons x r=>grind
      |min=>simp only[evalOp,AV2];grind
      |max=>simp only[evalOp,AV3];grind
      |_=>rfl
  |build T parts=>have:=TQ (ρ:=ρ) (ρ':=ρ') (l:=parts.toList) fun x hx=>h x (by simpa [Op.operands]using hx);simp only[evalOp,LF,this]
  |buildSlice T n parts=>have:=TQ (ρ:=ρ) (ρ':=ρ') (l:=parts.toList) fun x hx=>h x (by simpa [Op.operands]using hx);simp only[evalOp,EF,this]
  |makeFunc fn first cs=>
   cases fn with
    |func f=>have:=Ku (ρ:=ρ) (ρ':=ρ') (l:=cs.toList) fun x hx=>h x (by simp[Op.operands];grind);have hfst:=Ku (ρ:=ρ) (ρ':=ρ') (l:=first.toList) fun x hx=>h x (by simp[Op.operands];grind);simp only[evalOp,En,this];grind
    |_=>rfl
  |slice T x lo up mx=>
   have hx:=h x (by simp[Op.operands]);have hlo:=QS (ρ:=ρ) (ρ':=ρ') (o:=lo) fun y hy=>h y (by simp[Op.operands];grind);have hup:=QS (ρ:=ρ) (ρ':=ρ') (o:=up) fun y hy=>h y (by simp[Op.operands];grind);cases mx with
    |none=>simp only[evalOp,Cl,hx,hlo,hup]
    |some m=>have hm:=h m (by simp[Op.operands]);rcases up with _|q;simp only[evalOp,Cl,hx,hlo,hup,hm];have hq:=h q (by simp[Op.operands]);cases q<;>simp only[evalOp,Cl,hx,hlo,hup,hm,hq]
  |makeMap T o=>cases o<;>rfl
  |pick a b c=>simp only[evalOp,Si,h a (by simp[Op.operands]),h b (by simp[Op.operands]),h c (by simp[Op.operands])]
  |mapUpdate a b c d=>simp only[evalOp,Ex,h b (by simp[Op.operands]),h c (by simp[Op.operands]),h d (by simp[Op.operands])]
  |mapEntry a b c=>simp only[evalOp,GC,h b (by simp[Op.operands]),h c (by simp[Op.operands])]
  |entryStore a b c d=>simp only[evalOp,FP,h b (by simp[Op.operands]),h c (by simp[Op.operands]),h d (by simp[Op.operands])]
  |insert a b c d=>simp only[evalOp,MT,h b (by simp[Op.operands]),h c (by simp[Op.operands]),h d (by simp[Op.operands])]
  |move x|assign x|box _ x|load _ x|nilCheck x|unOp _ _ x|convert _ _ x|fieldAddr _ x _|field _ x _|extract x _|makeInterface _ x|typeAssert x _ _ _=>simp only[evalOp,ALY,GD,KC,Qu,C8,Jh,Eb,Cs,EE,Sh,h x (by simp[Op.operands])]
  |store _ x y|binOp _ _ x y _|makeSlice _ x y|indexAddr _ x y|index _ x y|lookup _ x y _=>simp only[evalOp,Cm,LD,BY,Ds,Gv,GW,h x (by simp[Op.operands]),h y (by simp[Op.operands])]
  |_=>rfl
theorem IB{ρ:Operand→AV}{o:Op}{x:Operand}(hx:x∈o.operands){id:Nat}(hid:id∈Ag (ρ x)):id∈G5 ρ o:=by unfold G5;grind
theorem VF{H H':List Ob}(t:Ty):∀ (ps:List (Nat×AV)) (xs:List t.den) (fr:List Nat),(∀ p∈ps,∀ id∈Ag p.2,H[id]? = H'[id]?)→DZ H t ps xs fr=DZ H' t ps xs fr:=by
 intro ps;induction ps with
  |nil=>intro xs fr _;rfl
  |cons p ps ih=>
   intro xs fr h;obtain⟨i,v⟩:=p;simp only[DZ];rw[Bx t v (h (i,v) (by simp))];cases E0 H' t v with
    |none=>rfl
    |some q=>cases decide (i<xs.length)with
     |true=>exact ih _ _ fun p hp=>h p (by simp[hp])
     |false=>rfl
theorem GS:∀ (t:Ty) (d:t.den),BF (BS t d)=[]:=by
 intro t;induction t with
  |unit=>intro d;rfl
  |bool=>intro d;rfl
  |int k=>intro d;rfl
  |slice e _=>intro d;rfl
  |nul e=>intro d;rfl
  |mapi j e _=>intro d;rfl
  |prod a b iha ihb=>intro d;simp only[BS];rw[D7,iha,ihb];rfl
  |arr n e ih=>
   intro d;simp only[BS];have key:∀ l:List Nat,BF (l.flatMap fun i=>BS e (AJ d i e.zero))=[]:=by
    intro l;induction l with
     |nil=>rfl
     |cons x xs ih'=>rw[ArJ,D7,ih,ih'];rfl
   grind
theorem AP8(l:List AV)(n:Nat){id:Nat}(h:id∈BF (l.take n)):id∈BF l:=by have:=Aqa n l;rw[← this,D7];simp[h]
theorem AP9(l:List AV)(n:Nat){id:Nat}(h:id∈BF (l.drop n)):id∈BF l:=by have:=Aqa n l;rw[← this,D7];simp[h]
theorem cells?_refs{v:AV}{vs:List AV}(h:cells? v=some vs){id:Nat}(hid:id∈BF vs):id∈Ag v:=by
 cases v with
  |CA=>simp[cells?]at h
  |tup _=>simp[cells?]at h
  |agg cs=>simp only[cells?,Apq]at h;subst h;simpa [Ag]using hid
  |data t d=>
   cases t with
    |unit=>simp only[cells?,Apq]at h;subst h;simp[BF]at hid
    |prod a b=>simp only[cells?,Apq]at h;subst h;rw[GS]at hid;cases hid
    |arr n e=>simp only[cells?,Apq]at h;subst h;rw[GS]at hid;cases hid
    |bool=>simp only[cells?,Apq]at h;subst h;simpa [BF]using hid
    |int k=>simp only[cells?,Apq]at h;subst h;simpa [BF]using hid
    |slice e=>simp only[cells?,Apq]at h;subst h;simpa [BF]using hid
    |nul e=>simp only[cells?,Apq]at h;subst h;simpa [BF]using hid
    |mapi j e=>simp only[cells?,Apq]at h;subst h;simpa [BF]using hid
  |_=>simp only[cells?,Apq]at h;subst h;simpa [BF]using hid
theorem AQP{t:Ty}{d:t.den}{v:AV}{vs cs:List AV}{s:Nat}(hp:Dj (BS t d) vs s=some cs)(hc:cells? v=some vs){id:Nat}(hid:id∈BF cs):id∈Ag v:=by unfold Dj at hp;split at hp;simp only[Apq]at hp;subst hp;rw[D7,D7,Ap6,Ap6]at hid;rcases hid with(hid|hid)|hid;have:=AP8 _ _ hid;rw[GS]at this;grind;exact cells?_refs hc hid;have:=AP9 _ _ hid;rw[GS]at this;grind;grind
theorem N7{R:Type}(hL:D1 E){ρ:Operand→AV}(o:Op)(ty:TypeId){H H':List Ob}{fz fz':List Bool}{slot:Nat}(k:AV→Eff→Option R)
  (ha:Re (G5 ρ o) slot (slotsOf o) (Dg ρ o) H H' fz fz') (hl:FD E ρ o=true):evalOp P E R o ty ρ H fz slot k=evalOp P E R o ty ρ H' fz' slot k:=by
 have tm:∀ x∈o.operands,∀ id∈Ag (ρ x),H[id]? = H'[id]? := fun x hx id hid=>ha.heap id (IB hx hid);have own:∀ x∈o.operands,∀ id,ρ x = .own id→H[id]? = H'[id]? := fun x hx id h=>tm x hx id (by rw[h];simp[Ag]);have win:∀ x∈o.operands,∀ id off n,ρ x = .win id off n→H[id]? = H'[id]? := fun x hx id off n h=>tm x hx id (by rw[h];simp[Ag]);have ptr:∀ x∈o.operands,∀ id off,ρ x = .ptr id off→H[id]? = H'[id]? := fun x hx id off h=>tm x hx id (by rw[h];simp[Ag]);have ept:∀ x∈o.operands,∀ id i s,ρ x = .eptr id i s→H[id]? = H'[id]? := fun x hx id i s h=>tm x hx id (by rw[h];simp[Ag]);have mpp:∀ x∈o.operands,∀ id,ρ x = .mp id→H[id]? = H'[id]? := fun x hx id h=>tm x hx id (by rw[h];simp[Ag]);cases o with
  |alloc T=>simp only[evalOp,Nf,Cr ha (s:=slot) (Ap1 _) (by simp[slotsOf])]
  |box T x=>simp only[evalOp,ALY,Cr ha (s:=slot) (Ap1 _) (by simp[slotsOf])]
  |buildSlice T n parts=>
   have hf:∀ (t:Ty) xs fr,DZ H t (parts.toList.map fun p=>(p.1,ρ p.2)) xs fr=DZ H' t (parts.toList.map fun p=>(p.1,ρ p.2)) xs fr:=fun t xs fr=>
    VF t _ xs fr fun p hp id hid=>by
     obtain⟨q,hq,rfl⟩:=AqU.1 hp
     exact tm q.2 (by simp[Op.operands];grind) id hid
   simp only[evalOp,EF,hf,EA ha (s:=slot) (Ap1 _) (by simp[slotsOf]),Cr ha (s:=slot) (Ap1 _) (by simp[slotsOf])];cases sliceAt P T with
    |some p=>rfl
    |none=>
     dsimp only;cases cellAt P T with
      |none=>rfl
      |some e=>cases decide (n=1)with
       |false=>rfl
       |true=>
        cases hps:parts.toList with
        |nil=>rfl
        |cons p r=>cases r with
         |cons p' r=>rfl
         |nil=>
          simp only[AqL,Art]
          cases hx:ρ p.2<;>try rfl
          rename_i id i s
          dsimp only
          simp only[Cu,ept p.2 (by simp[Op.operands];exact⟨p.1,(by simpa using (show p∈parts.toList by grind))⟩) id i s hx]
  |load T x=>
   simp only[evalOp,Jh];cases BT P T with
    |none=>rfl
    |some n=>cases EZ P T with
     |none=>rfl
     |some ag=>
      cases hx:ρ x<;>try rfl
      ·rename_i id off;simp only[ptr x (by simp[Op.operands]) id off hx]
      ·rename_i id i s;simp only[ept x (by simp[Op.operands]) id i s hx]
  |store T x y=>
   have hy:=tm y (by simp[Op.operands]);simp only[evalOp,GW];cases hs:BT P T with
    |none=>rfl
    |some n=>cases hc:cells? (ρ y)with
     |none=>rfl
     |some vs=>
      dsimp only
      cases hd:decide (vs.length=n)with
      |false=>rfl
      |true=>
       dsimp only
       cases hx:ρ x<;>try rfl
       ·rename_i id off;dsimp only;rw[ptr x (by simp[Op.operands]) id off hx]
       ·rename_i id i s
        dsimp only
        rw[ept x (by simp[Op.operands]) id i s hx]
        have hun:∀ fr,AZ (AY fr fz) id=AZ (AY fr fz') id:=fun fr=>CR ha (by simp[Dg,hx,Ag]) fr
        cases H'[id]? with
        |none=>rfl
        |some ob=>cases ob with
         |arr T' t xs=>
          simp only[hun,Bx _ (ρ y) hy]
          cases t.nul? with
          |some e=>rfl
          |none=>
          dsimp only
          cases (s==0&&n==t.size)with
          |true=>rfl
          |false=>
           dsimp only
           cases hp:Dj (BS t (AJ xs i t.zero)) vs s with
           |none=>rfl
           |some cs=>
            dsimp only
            rw[N4 t cs (fun id' hid=>hy id' (AQP hp hc hid))]
         |rows T' e t xs ver out=>
          have hun0:AZ fz id=AZ fz' id:=hun []
          grind
         |_=>rfl
  |nilCheck x=>
   simp only[evalOp,Cs];cases hx:ρ x<;>try rfl
   rename_i id off;simp only[FE,ptr x (by simp[Op.operands]) id off hx];rename_i id i s;simp only[Cu,ept x (by simp[Op.operands]) id i s hx]
  |fieldAddr T x f=>
   simp only[evalOp,C8];cases fieldAt P T f with
    |none=>rfl
    |some p=>
     obtain⟨off,size,ag⟩:=p;dsimp only;cases decide (size=0)with
      |true=>rfl
      |false=>
       dsimp only;cases hx:ρ x<;>try rfl
       rename_i id off;simp only[FE,ptr x (by simp[Op.operands]) id off hx];rename_i id i s;simp only[Cu,ept x (by simp[Op.operands]) id i s hx]
  |makeMap T o=>
   cases o with
    |none=>simp only[evalOp,Hz,Cr ha (s:=slot) (Ap1 _) (by simp[slotsOf])]
    |some x=>rfl
  |makeSlice T x y=>simp only[evalOp,Gv,Cr ha (s:=slot) (Ap1 _) (by simp[slotsOf])]
  |slice T x lo up mx=>
   have hx:=tm x (by simp[Op.operands]);cases mx with
    |none=>
     have hsl:∀ sz l h,GP H sz (ρ x) l h R=GP H' sz (ρ x) l h R:=fun sz l h=>by
      funext kk;unfold GP;cases hv:ρ x with
       |data t d=>cases t<;>rfl
       |own id=>dsimp only;rw[own x (by simp[Op.operands]) id hv]
       |win id off n=>dsimp only;rw[win x (by simp[Op.operands]) id off n hv]
       |_=>rfl
     simp only[evalOp,Cl,hsl];cases P.underlying T with
      |none=>rfl
      |some d=>cases d with
       |array n e=>
        dsimp only
        cases El ρ lo with
        |none=>rfl
        |some lo=>cases El ρ up with
         |none=>rfl
         |some up=>
          cases hv:ρ x<;>try rfl
          rename_i id n'
          dsimp only
          rw[tm x (by simp[Op.operands]) id (by rw[hv];simp[Ag])]
       |_=>rfl
    |some mm=>
     have hsl:F9 H (ρ x)=F9 H' (ρ x):=by
      unfold F9;cases hv:ρ x with
       |data t d=>cases t<;>rfl
       |own id=>simp only[Cu,own x (by simp[Op.operands]) id hv]
       |win id off n=>simp only[Cu,win x (by simp[Op.operands]) id off n hv]
       |_=>rfl
     simp only[evalOp,Cl,hsl,Cr ha (s:=slot) (Ap1 _) (by simp[slotsOf])]
  |indexAddr T x y=>
   simp only[evalOp,BY];cases hu:P.underlying T with
    |none=>rfl
    |some d=>cases d with
     |slice e=>
      cases hy:ρ y<;>try rfl
      rename_i t d'
      cases t<;>try rfl
      cases hv:ρ x with
      |data t d=>cases t<;>rfl
      |own id=>dsimp only;rw[own x (by simp[Op.operands]) id hv]
      |win id off n=>dsimp only;rw[win x (by simp[Op.operands]) id off n hv]
      |_=>rfl
     |array n e=>
      cases hy:ρ y<;>try rfl
      rename_i t d'
      cases t<;>try rfl
      rename_i j
      have hat:Y4 H n (ρ x)=Y4 H' n (ρ x):=by
       unfold Y4
       cases hv:ρ x<;>try rfl
       rename_i id n'
       dsimp only
       rw[tm x (by simp[Op.operands]) id (by rw[hv];simp[Ag])]
      dsimp only
      rw[hat]
      cases Y4 H' n (ρ x)with
      |some q=>rfl
      |none=>
      dsimp only
      cases gAt (ρ x)with
      |some q=>rfl
      |none=>
      dsimp only
      cases BT P e with
      |none=>rfl
      |some s=>cases decide (0≤(d':Int)∧(d':Int)<(n:Int))with
       |false=>rfl
       |true=>
        dsimp only
        cases hv:ρ x<;>try rfl
        ·rename_i id off;simp only[FE,ptr x (by simp[Op.operands]) id off hv]
        ·rename_i id i s;simp only[Cu,ept x (by simp[Op.operands]) id i s hv]
     |_=>rfl
  |lookup T a b ok=>
   have hb:=fun t=>Bx t (ρ b) (tm b (by simp[Op.operands]));simp only[evalOp,Ds,hb];cases hu:P.underlying T with
    |none=>rfl
    |some d=>cases d with
     |map kt vt=>
      cases hv:ρ a with
      |data t d=>cases t<;>rfl
      |mp id=>dsimp only;rw[mpp a (by simp[Op.operands]) id hv]
      |_=>rfl
     |_=>rfl
  |mapUpdate T a b c=>
   have hb:=fun t=>Bx t (ρ b) (tm b (by simp[Op.operands]));have hc:=fun t=>Bx t (ρ c) (tm c (by simp[Op.operands]));simp only[evalOp,Ex,hb,hc];cases hu:P.underlying T with
    |none=>rfl
    |some d=>cases d with
     |map kt vt=>
      cases hv:ρ a<;>try rfl
      rename_i id
      dsimp only
      have hun:AZ fz id=AZ fz' id:=CR ha (by simp[Dg,hv,Ag]) []
      rw[mpp a (by simp[Op.operands]) id hv,hun]
     |_=>rfl
  |mapEntry T a b=>
   have hb:=fun t=>Bx t (ρ b) (tm b (by simp[Op.operands]));simp only[evalOp,GC];cases hu:P.underlying T with
    |none=>rfl
    |some d=>cases d with
     |map kt vt=>
      cases hv:ρ a<;>try rfl
      rename_i id
      dsimp only
      rw[mpp a (by simp[Op.operands]) id hv]
      grind
     |_=>rfl
  |entryStore T a b c=>
   have hc:=fun t=>Bx t (ρ c) (tm c (by simp[Op.operands]));simp only[evalOp,FP];cases hv:ρ a<;>try rfl
   rename_i id;cases hs:ρ b<;>try rfl
   rename_i t d;cases t<;>try rfl
   rename_i j;cases j<;>try rfl
   dsimp only;rw[mpp a (by simp[Op.operands]) id hv];grind
  |insert T a b c=>
   have hb:=fun t=>Bx t (ρ b) (tm b (by simp[Op.operands]));have hc:=fun t=>Bx t (ρ c) (tm c (by simp[Op.operands]));simp only[evalOp,MT];cases hu:P.underlying T with
    |none=>rfl
    |some d=>cases d with
     |map kt vt=>
      cases hv:ρ a<;>try rfl
      rename_i id
      dsimp only
      rw[mpp a (by simp[Op.operands]) id hv]
      grind
     |_=>rfl
  |convert S T x=>have hx:=fun t=>Bx t (ρ x) (tm x (by simp[Op.operands]));simp only[evalOp,GD];grind
  |call c=>
   obtain⟨callee,args,ts⟩:=c;cases callee with
    |value f=>
     simp only[evalOp,Ji];cases hf:ρ f<;>try rfl
     rename_i g caps;dsimp only;refine hL.1 g (by simpa [FD,hf]using hl) R _ H H' fz fz' slot k ⟨fun id hid=>ha.heap id ?_,ha.slotH,ha.slotF,ha.len,fun id hid=>by cases hid⟩;rw[D7,Ap6]at hid;rcases hid with hid|hid;have key:∀ l:List Operand,id∈BF (l.map ρ)→∃ x∈l,id∈Ag (ρ x):=by
      intro l;induction l with
       |nil=>intro h;simp[BF]at h
       |cons y l ih=>intro h;simp only[AqL,BF,Ap6]at h;grind
     obtain⟨x,h1,h2⟩:=key _ hid;exact IB (x:=x) (by simp[Op.operands,Call.operands];grind) h2;exact IB (x:=f) (by simp[Op.operands,Call.operands]) (by rw[hf];simpa [Ag]using hid);rename_i g caps;dsimp only;refine hL.1 g (by simpa [FD,hf]using hl) R _ H H' fz fz' slot k ⟨fun id hid=>ha.heap id ?_,ha.slotH,ha.slotF,ha.len,fun id hid=>by cases hid⟩;rw[D7,Ap6]at hid;rcases hid.symm with hid|hid;have key:∀ l:List Operand,id∈BF (l.map ρ)→∃ x∈l,id∈Ag (ρ x):=by
      intro l;induction l with
       |nil=>intro h;simp[BF]at h
       |cons y l ih=>intro h;simp only[AqL,BF,Ap6]at h;grind
     obtain⟨x,h1,h2⟩:=key _ hid;exact IB (x:=x) (by simp[Op.operands,Call.operands];grind) h2;exact IB (x:=f) (by simp[Op.operands,Call.operands]) (by rw[hf];simpa [Ag]using hid)
    |invoke r n=>rfl
    |builtin b=>
     have ops:∀ x∈args.toList,x∈Op.operands (.call { callee:=.builtin b,args:=args,argTypes:=ts }):=fun x hx=>by simp[Op.operands,Call.operands];grind
     cases b with
      |len=>
       simp only[evalOp,MS];cases h1:args.toList with
        |nil=>rfl
        |cons x r=>cases r with
         |cons y r=>rfl
         |nil=>
          have hx:=ops x (by grind)
          cases ts.toList with
          |nil=>rfl
          |cons T r=>cases r with
           |cons T' r=>rfl
           |nil=>
            dsimp only
            cases hu:P.underlying T with
            |none=>rfl
            |some d=>
             cases d with
             |slice e=>
              dsimp only
              cases hv:ρ x with
              |data t d=>cases t<;>rfl
              |own id=>grind
              |win id off n=>simp only[Cu,win x hx id off n hv]
              |_=>rfl
             |map a b=>
              grind
             |_=>rfl
      |append=>
       simp only[evalOp,C1];cases h1:args.toList with
        |nil=>rfl
        |cons s r=>cases r with
         |nil=>rfl
         |cons x r=>cases r with
          |cons z r=>rfl
          |nil=>
           have hs:=ops s (by grind)
           have hx:=ops x (by grind)
           have hfree:=Cr ha (s:=slot) (Ap1 _) (by simp[slotsOf])
           cases ts.toList with
           |nil=>rfl
           |cons T r=>cases r with
            |nil=>rfl
            |cons T' r=>cases r with
             |cons T'' r=>rfl
             |nil=>
              dsimp only
              cases sliceAt P T with
              |none=>
               cases decide (T=T')with
               |false=>rfl
               |true=>
                dsimp only
                cases cellAt P T with
                |none=>rfl
                |some e=>
                 cases hvx:ρ x<;>try rfl
                 rename_i ix
                 dsimp only
                 rw[own x hx ix hvx]
                 cases hvs:ρ s with
                 |own id=>grind
                 |_=>simp only[hfree]
              |some p=>
               obtain⟨e,t⟩:=p
               cases decide (T=T')with
               |false=>
                grind
               |true=>
                dsimp only
                rw[Bx (.slice t) (ρ x) (tm x hx)]
                cases E0 H' (.slice t) (ρ x)with
                |none=>rfl
                |some q=>
                 obtain⟨ys,fr⟩:=q
                 cases zeroAt P e with
                 |none=>rfl
                 |some zz=>
                  cases (P.info? e).map (fun i=>decide (i.bytes≤1024))with
                  |none=>rfl
                  |some bb=>cases bb with
                   |false=>rfl
                   |true=>
                    dsimp only
                    cases hv:ρ s<;>try rfl
                    ·grind
                    ·rename_i id
                     have hun:AZ fz id=AZ fz' id:=CR ha (by simp[Dg,h1,hv,Ag]) []
                     dsimp only
                     rw[own s hs id hv]
                     simp_all
                    ·rename_i id off n
                     have hun:AZ fz id=AZ fz' id:=CR ha (by simp[Dg,h1,hv,Ag]) []
                     cases off with
                     |succ off=>rfl
                     |zero=>simp only[win s hs id 0 n hv,hfree,hun]
                    ·grind
                    ·rename_i id i ver
                     have hun:AZ fz id=AZ fz' id:=CR ha (by simp[Dg,h1,hv,Ag]) []
                     dsimp only
                     rw[tm s hs id (by rw[hv];simp[Ag])]
                     grind
      |clear=>
       simp only[evalOp,HZ];cases h1:args.toList with
        |nil=>rfl
        |cons x r=>cases r with
         |cons z r=>rfl
         |nil=>
          have hx:=ops x (by grind)
          cases ts.toList with
          |nil=>rfl
          |cons T r=>cases r with
           |cons T' r=>rfl
           |nil=>
            dsimp only
            cases sliceAt P T with
            |none=>rfl
            |some p=>
             obtain⟨e,t⟩:=p
             dsimp only
             cases zeroAt P e with
             |none=>rfl
             |some zz=>
              dsimp only
              cases hv:ρ x<;>try rfl
              ·rename_i id
               have hun:AZ fz id=AZ fz' id:=CR ha (by simp[Dg,h1,hv,Ag]) []
               grind
              ·rename_i id off n
               have hun:AZ fz id=AZ fz' id:=CR ha (by simp[Dg,h1,hv,Ag]) []
               grind
      |_=>rfl
  |makeFunc fn first cs=>cases fn<;>rfl
  |_=>rfl
theorem AGL{R:Type}(hL:D1 E){ρ:Operand→AV}(o:Op)(ty:TypeId){H H':List Ob}{fz fz':List Bool}{slot:Nat}(k:AV→Eff→Option R)
  (ha:Re (Jo ρ o) slot (slotsOf o) (Dg ρ o) H H' fz fz') (hl:FD E ρ o=true):evalOp P E R o ty ρ H fz slot k=evalOp P E R o ty ρ H' fz' slot k:=by
 cases o with
  |move x=>rfl
  |assign x=>rfl
  |pick c a b=>rfl
  |extract x i=>rfl
  |build T ps=>rfl
  |makeFunc f a b=>cases f<;>rfl
  |store T x y=>
   by_cases hp:∃ id off,ρ x = .ptr id off;obtain⟨id,off,hx⟩:=hp;have hid:=ha.heap id (by simp only[Jo,hx];simp);simp only[evalOp,GW,hx,hid];have e:Jo ρ (.store T x y)=G5 ρ (.store T x y):=by simp only[Jo];grind
   rw[e]at ha;exact N7 hL (.store T x y) ty k ha hl
  |_=>exact N7 hL _ ty k ha hl
theorem ACB{l:List AV}{id:Nat}(h:id∈BF l):∃ v∈l,id∈Ag v:=by
 induction l with
  |nil=>simp[BF]at h
  |cons a l ih=>simp only[BF,Ap6]at h;grind
theorem Cf{l:List AV}{v:AV}{id:Nat}(hv:v∈l)(h:id∈Ag v):id∈BF l:=by
 induction l with
  |nil=>cases hv
  |cons a l ih=>simp only[BF,Ap6];grind
theorem ALX{R:Type}(hL:D1 E){ρ:Operand→AV}{φ:List Nat}(o:Op)(ty:TypeId){H H':List Ob}{fz fz':List Bool}{slot:Nat}(k:AV→Eff→Option R)(hw:KT E ρ o φ H=true)
  (ha:Re (φ.map (· / 2)) slot (slotsOf o) (φ.map (· / 2)) H H' fz fz'):evalOp P E R o ty ρ H fz slot k=evalOp P E R o ty ρ H' fz' slot k:=by
 unfold KT at hw;simp only[Apt]at hw;obtain⟨⟨⟨h1,h2⟩,h3⟩,h4⟩:=hw;unfold SM at h4;split at h4;rename_i f args ts;split at h4;rename_i g caps hf;simp only[evalOp,Ji,hf];have wtS:∀ {i:Nat},wt φ i=true→i∈φ.map (· / 2):=by intro i hi;unfold wt at hi;grind
 refine hL.2 g h4 R _ H H' fz fz' slot k (φ.map (· / 2)) (fun id hid => ?_) (fun id hid cs hc j hj => ?_) ⟨ha.heap,ha.slotH,ha.slotF,ha.len,ha.wrF⟩
 rw[AqE]at h1;refine wtS (h1 id ?_);unfold G5;rw[List.mem_flatMap];obtain⟨v,hv,hi⟩:=ACB hid;rcases Ap6.1 hv with hv|hv;obtain⟨x,hx,rfl⟩:=AqU.1 hv;exact⟨x,by simp[Op.operands,Call.operands];grind,hi⟩;exact⟨f,by simp[Op.operands,Call.operands],by rw[hf];simp only[Ag];exact Cf hv hi⟩;unfold Nl at h2;grind;rename_i g caps hf;simp only[evalOp,Ji,hf];have wtS:∀ {i:Nat},wt φ i=true→i∈φ.map (· / 2):=by intro i hi;unfold wt at hi;grind
 refine hL.2 g h4 R _ H H' fz fz' slot k (φ.map (· / 2)) (fun id hid => ?_) (fun id hid cs hc j hj => ?_) ⟨ha.heap,ha.slotH,ha.slotF,ha.len,ha.wrF⟩
 rw[AqE]at h1;refine wtS (h1 id ?_);unfold G5;rw[List.mem_flatMap];obtain⟨v,hv,hi⟩:=ACB hid;rcases(Ap6.1 hv).symm with hv|hv;obtain⟨x,hx,rfl⟩:=AqU.1 hv;exact⟨x,by simp[Op.operands,Call.operands];grind,hi⟩;exact⟨f,by simp[Op.operands,Call.operands],by rw[hf];simp only[Ag];exact Cf hv hi⟩;unfold Nl at h2;grind;grind;grind
end
end Go.Pev
end
section
namespace Go.Pev
open Go.RowKit
section
variable {P:Program} {E:Env}
def DR(all:List Oper)(g:Option (Nat×Bool))(st:St):Option Bool:=
 match g with
 |none=>some true
 |some (j,want)=>match(all[j]?).bind (·.dst)with
  |none=>none
  |some d=>match st.tmps.f d with
   |.data .bool b=>some (b==want)
   |.tup []=>some false
   |_=>none
theorem AF9{R:Type}{all:List Oper}{g:Option (Nat×Bool)}{st:St}{yes no:St→Option R}{r:R}(h:guarded R all g st yes no=some r):
  (DR all g st=some true∧yes st=some r)∨(DR all g st=some false∧no st=some r):=by
 unfold guarded at h;unfold DR;split at h;grind
 ·rename_i j want;split at h;cases h
  ·rename_i d hj;simp only[hj];split at h
   ·rename_i b hd;have hs:=Tm.Lt hd;simp only[hd];split at h;·rw[hs]at h;split at h;all_goals simp_all
    ·rw[hs]at h;split at h;all_goals simp_all
   all_goals grind
def Kn(E:Env)(H:List Ob)(ρ:Operand→AV)(o:Op)(φ:List Nat):Prop:=(Li φ=true∧KT E ρ o φ H=true)∨(within (Jo ρ o) φ=true∧M5 (Dg ρ o) φ=true∧FD E ρ o=true)
def CV(P:Program)(E:Env)(all:List Oper)(o:Oper)(φ:List Nat)(slot:Nat)(st st1:St):Prop:=
 (DR all o.guard st=some true∧∃ v e,(Kg φ=true∨(Kn E st.heap (An st.tmps) o.op φ∧Q0 (writer o.op||Li φ) φ slot (slotsOf o.op) e=true)) ∧
  (∀ (R:Type) (k:AV→Eff→Option R),evalOp P E R o.op o.type (An st.tmps) st.heap st.frz slot k=k v e)∧st1=(st.app e).put o.dst v) ∨
 (DR all o.guard st=some false∧st1=st.put o.dst Ba)
theorem W3(hE:∀ g,Ak P g (E.spec g)){R:Type}{all:List Oper}{o:Oper}{φ:List Nat}{slot:Nat}{st:St}{k:St→Option R}{r:R}(h:Pg P E R all o φ slot st k=some r):
  ∃ st1,CV P E all o φ slot st st1∧k st1=some r:=by
 unfold Pg at h;rcases AF9 h with⟨hg,h⟩|⟨hg,h⟩
 split at h;rename_i hw;simp only[Aqu,Apt]at hw;obtain⟨v,e,h1,h2,_⟩:=ED hE o.op R _ _ _ _ _ _ _ h;split at h1;rename_i he;rw[Aqu]at he;refine⟨_,.inl ⟨hg,v,e,?_,h2,rfl⟩,h1⟩;rcases hw with hw|hw;grind;rcases he with he|he;grind;refine .inr ⟨?_,he⟩;rcases hw with hw|hw;exact .inl hw;exact .inr ⟨hw.2.1.1,hw.2.1.2,hw.2.2⟩;grind;grind;exact⟨_,.inr ⟨hg,rfl⟩,h⟩
def HL(P:Program)(E:Env)(all:List Oper)(fp:Nat→List Nat)(sl:Nat→Nat):List Nat→St→St→Prop
 |[],st,st'=>st=st'
 |i::l,st,st'=>∃ o s1,all[i]? = some o∧CV P E all o (fp i) (sl i) st s1∧HL P E all fp sl l s1 st'
def BC(all:List Oper)(base i:Nat):Nat:=base+B9 (all.take i)
theorem IS(a b:List Oper):B9 (a++b)=B9 a+B9 b:=by
 unfold B9;induction a with
  |nil=>simp
  |cons x a ih=>grind
theorem AAG(hE:∀ g,Ak P g (E.spec g)){R:Type}{all:List Oper}{fp:List (List Nat)}{base:Nat}{k:St→Option R}{r:R}:∀ (rest pre:List Oper) (fp':List (List Nat)) (slot:Nat) (st:St),
  all=pre++rest→fp'=fp.drop pre.length→slot=BC all base pre.length→I7 P E R all rest fp' slot st k=some r →
  ∃ st',HL P E all (fun i=>fp.getD i []) (BC all base) (List.range' pre.length rest.length) st st'∧k st'=some r:=by
 intro rest;induction rest with
  |nil=>intro pre fp' slot st _ _ _ h;exact⟨st,rfl,h⟩
  |cons o rest ih=>
   intro pre fp' slot st hall hfp hsl h;simp only[I7]at h;obtain⟨s1,h1,h2⟩:=W3 hE h;have hlen:(pre++[o]).length=pre.length+1:=by simp
   have hfp1:fp'.headD []=fp.getD pre.length []:=by simp_all
   have hfp2:fp'.tail=fp.drop (pre++[o]).length:=by simp_all
   have hs2:slot+slotsOf o.op=BC all base (pre++[o]).length:=by
    rw[hsl,hlen];unfold BC;have e1:all.take (pre.length+1)=pre++[o]:=by grind
    have e2:all.take pre.length=pre:=by grind
    rw[e1,e2,IS];simp[B9];omega
   obtain⟨st',h3,h4⟩:=ih (pre++[o]) _ _ s1 (by grind) hfp2 hs2 h2;refine⟨st',?_,h4⟩;rw[Apw,ArF];refine⟨o,s1,by grind,?_,by grind⟩;grind
theorem TK:∀ (l:List (Nat×Ob)) (H:List Ob),(A5 l H).length=H.length:=by
 intro l;induction l with
  |nil=>intro H;rfl
  |cons p l ih=>intro H;obtain⟨i,o⟩:=p;simp only[A5];grind
theorem Bf{i:Nat}:∀ (l:List (Nat×Ob)) (H:List Ob),(∀ p∈l,p.1≠i)→(A5 l H)[i]? = H[i]? := by
 intro l;induction l with
  |nil=>intro H _;rfl
  |cons p l ih=>intro H h;obtain⟨j,o⟩:=p;simp only[A5];simp_all
theorem GQ{i:Nat}:∀ (l:List (Nat×Ob)) (H H':List Ob),H[i]? = H'[i]?→(A5 l H)[i]? = (A5 l H')[i]? := by
 intro l;induction l with
  |nil=>intro H H' h;exact h
  |cons p l ih=>intro H H' h;obtain⟨j,o⟩:=p;simp only[A5];refine ih _ _ ?_;by_cases hij:i=j;all_goals grind
theorem AE1(a b:List (Nat×Ob))(h:∀ p∈a,∀ q∈b,p.1≠q.1)(H:List Ob):A5 a (A5 b H)=A5 b (A5 a H):=by
 apply Ark;intro i;by_cases ha:∀ p∈a,p.1≠i;rw[Bf a _ ha];exact GQ b _ _ (Bf a _ ha).symm;have hb:∀ q∈b,q.1≠i:=by grind
 rw[Bf b _ hb];exact GQ a _ _ (Bf b _ hb)
theorem AI2(a b:List Nat)(fz:List Bool):AY a (AY b fz)=AY b (AY a fz):=by
 apply Ark;intro i;have hl:∀ (x:List Bool) (y:List Bool),x.length=y.length→(∀ i,x.getD i false=y.getD i false)→x[i]? = y[i]? := by intro x y hlen hg;have:=hg i;grind
 refine hl _ _ (by simp[DB]) fun i => ?_;rw[Av,Av,Av,Av,DB,DB];grind
theorem Wb{l φ:List Nat}(h:within l φ=true){i:Nat}(hi:i∈l):rd φ i=true:=by unfold within at h;grind
theorem AIQ{l φ:List Nat}(h:M5 l φ=true){i:Nat}(hi:i∈l):wt φ i=true:=by unfold M5 at h;grind
theorem Jq{φ:List Nat}{i:Nat}(h:wt φ i=true):rd φ i=true:=by unfold wt at h;unfold rd;grind
theorem LH{wr:Bool}{φ:List Nat}{slot n:Nat}{e:Eff}(h:Q0 wr φ slot n e=true):e.heap=none∧(∀ p∈e.objs,(slot≤p.1∧p.1<slot+n)∨(wr=true∧wt φ p.1=true))∧∀ i∈e.frz,rd φ i=true:=by unfold Q0 at h;simp only[Apt]at h;obtain⟨⟨h1,h2⟩,h3⟩:=h;refine⟨by simp_all,fun p hp => ?_,fun i hi=>Wb h3 hi⟩;grind
theorem CP{e:Eff}(h:e.heap=none)(H:List Ob):CH e H=A5 e.objs H:=by unfold CH;rw[h]
theorem Cd{e:Eff}(h:e.heap=none)(F:List Bool):EY e F=AY e.frz F:=by unfold EY;rw[h]
theorem Br{all:List Oper}{x y:Oper}(hap:apart? all x y=true)(st:St)(v:AV):∀ z∈y.op.operands,An (st.put x.dst v).tmps z=An st.tmps z:=by
 obtain⟨h1,_,_⟩:=Oper.apart_spec hap;intro z hz;cases hd:x.dst with
  |none=>rfl
  |some d=>
   cases z with
    |tmp t=>
     have hne:d≠t:=by rintro rfl;refine h1 d hd ?_;unfold Oper.looksAt;refine List.mem_append_left _ ?_;rw[List.mem_filterMap];exact⟨.tmp d,by grind,rfl⟩
     simp[An,St.put,Tm.TJ,Aq2 hne]
    |const v=>rfl
    |global g=>rfl
    |func f=>rfl
theorem Gs{all:List Oper}{x y:Oper}(hap:apart? all x y=true)(st:St)(v:AV)(H:List Ob)(F:List Bool):DR all y.guard ({ st with heap:=H,frz:=F }.put x.dst v)=DR all y.guard st:=by
 obtain⟨h1,_,_⟩:=Oper.apart_spec hap;unfold DR;cases hg:y.guard with
  |none=>rfl
  |some p=>
   obtain⟨j,want⟩:=p;dsimp only;cases hj:(all[j]?).bind (·.dst)with
    |none=>rfl
    |some d=>
     dsimp only;cases hd:x.dst with
      |none=>rfl
      |some d'=>
       have hne:d'≠d:=by rintro rfl;refine h1 d' hd ?_;unfold Oper.looksAt;grind
       simp[St.put,Tm.TJ,Aq2 hne]
theorem St.put_comm(st:St){x y:Option Tmp}(v u:AV)(h:∀ d,x=some d→y≠some d):(st.put x v).put y u=(st.put y u).put x v:=by
 cases x with
  |none=>rfl
  |some d=>
   cases y with
    |none=>rfl
    |some d'=>have hne:d≠d':=fun e=>h d rfl (by rw[e]);simp only[St.put];rw[Tm.set_comm _ _ _ hne]
theorem St.He(st:St)(e:Eff)(d:Option Tmp)(v:AV):(st.put d v).app e=(st.app e).put d v:=by cases d<;>rfl
theorem Aec{φ:List Nat}{i:Nat}(h:rd φ i=true):∃ c∈φ,c/2=i:=by unfold rd at h;grind
theorem MH{all:List Oper}{x y:Oper}{φx φy:List Nat}{sx sy:Nat}(h:indep all x y φx φy sx sy=true):
  apart? all x y=true∧((Li φx=false∧Li φy=false∧WG x.op y.op=true)∨(Kg φx=true∧Bu y.op=true)∨(Kg φy=true∧Bu x.op=true)∨Kg φx=false∧Kg φy=false∧(∀ i,rd φy i=true→¬ (sx≤i∧i<sx+slotsOf x.op))∧(∀ i,rd φx i=true→¬ (sy≤i∧i<sy+slotsOf y.op))∧(∀ i,wt φx i=true→rd φy i=true→False)∧(∀ i,wt φy i=true→rd φx i=true→False)):=by
 unfold indep at h;rw[Apt]at h;obtain⟨h1,h⟩:=h;refine⟨h1,?_⟩;simp only[Aqu,Apt,Aqz]at h;rcases h with((h|h)|h)|h;grind;grind;rotate_left;grind;obtain⟨⟨⟨⟨⟨hx,hy⟩,h2⟩,h3⟩,h4⟩,h5⟩:=h;refine .inr (.inr (.inr ⟨hx,hy,?_⟩));rw[AqE]at h2 h3 h4 h5;have own:∀ {φ:List Nat} {s n:Nat},(∀ c∈φ,(!(decide (s≤c/2)&&decide (c/2<s+n)))=true)→∀ i,rd φ i=true→¬ (s≤i∧i<s+n):=by intro φ s n h i hi;obtain⟨c,hc,rfl⟩:=Aec hi;grind
 have wr:∀ {φ ψ:List Nat},(∀ c∈φ,(decide (c % 2=0) || !(rd ψ (c/2)))=true)→∀ i,wt φ i=true→rd ψ i=true→False:=by intro φ ψ h i hi hr;unfold wt at hi;grind
 grind
theorem Is{all:List Oper}{x y:Oper}(h:apart? all x y=true):apart? all y x=true:=by obtain⟨h1,h2,h3⟩:=Oper.apart_spec h;unfold apart? Oper.apart;grind
theorem AAr{φ:List Nat}{H H':List Ob}(h:∀ i,rd φ i=true→H[i]? = H'[i]?):Nl φ H=Nl φ H':=by
 unfold Nl;rw[AsL,AqE,AqE];have e:∀ c∈φ,H[c/2]? = H'[c/2]? := by intro c hc;refine h _ ?_;unfold rd;grind
 grind
theorem AG4{ρ:Operand→AV}{o:Op}{φ:List Nat}{H H':List Ob}(h:∀ i,rd φ i=true→H[i]? = H'[i]?)(hk:Kn E H ρ o φ):Kn E H' ρ o φ:=by rcases hk with⟨h1,h2⟩|hk;refine .inl ⟨h1,?_⟩;unfold KT at *;rw[← AAr h];exact h2;exact .inr hk
theorem ACt{x:Oper}{φx φy:List Nat}{sx:Nat}(h1:∀ i,rd φy i=true→¬ (sx≤i∧i<sx+slotsOf x.op))(h3:∀ i,wt φx i=true→rd φy i=true→False){st:St}{vx:AV}{ex:Eff}{bx:Bool}(hex:Q0 bx φx sx (slotsOf x.op) ex=true):
  ∀ i,rd φy i=true→((st.app ex).put x.dst vx).heap[i]? = st.heap[i]? := by
 intro i hi;obtain⟨q1,q2,q3⟩:=LH hex;have hheap:((st.app ex).put x.dst vx).heap=A5 ex.objs st.heap:=by cases x.dst<;>exact CP q1 _
 rw[hheap];refine Bf _ _ fun p hp => ?_;grind
theorem ABr(hL:D1 E){all:List Oper}{x y:Oper}{φx φy:List Nat}{sx sy:Nat}(hap:apart? all x y=true)(h1:∀ i,rd φy i=true→¬ (sx≤i∧i<sx+slotsOf x.op))
  (h2:∀ i,rd φx i=true→¬ (sy≤i∧i<sy+slotsOf y.op)) (h3:∀ i,wt φx i=true→rd φy i=true→False) (h4:∀ i,wt φy i=true→rd φx i=true→False) (hsl:sx+slotsOf x.op≤sy∨sy+slotsOf y.op≤sx)
  {st:St} {vx:AV} {ex:Eff} {bx:Bool} (hex:Q0 bx φx sx (slotsOf x.op) ex=true) (hk:Kn E ((st.app ex).put x.dst vx).heap (An st.tmps) y.op φy∨Kn E st.heap (An st.tmps) y.op φy) :
  ∀ (R:Type) (k:AV→Eff→Option R),evalOp P E R y.op y.type (An ((st.app ex).put x.dst vx).tmps) ((st.app ex).put x.dst vx).heap ((st.app ex).put x.dst vx).frz sy k=evalOp P E R y.op y.type (An st.tmps) st.heap st.frz sy k:=by
 intro R k;obtain⟨q1,q2,q3⟩:=LH hex;have hput:∀ z∈y.op.operands,An ((st.app ex).put x.dst vx).tmps z=An st.tmps z:=fun z hz=>by have:=Br hap (st.app ex) vx z hz;exact this
 have hheap:((st.app ex).put x.dst vx).heap=A5 ex.objs st.heap:=by cases x.dst<;>exact CP q1 _
 have hfrz:((st.app ex).put x.dst vx).frz=AY ex.frz st.frz:=by cases x.dst<;>exact Cd q1 _
 rw[hheap]at hk;rw[hheap,hfrz];have hsame:∀ i,rd φy i=true→(A5 ex.objs st.heap)[i]? = st.heap[i]? := by intro i hi;refine Bf _ _ fun p hp => ?_;grind
 have hkn:Kn E st.heap (An st.tmps) y.op φy:=hk.elim (fun h=>AG4 hsame h) fun h=>h;rcases hkn with⟨_,hw⟩|⟨hw,hww,hl⟩
 rw[B0 y.op y.type _ _ sy k hput];symm;have wtS:∀ c∈φy,wt φy (c/2)=true:=by intro c hc;unfold KT at hw;simp only[Apt]at hw;have:=hw.1.2;rw[AqE]at this;have:=this c hc;simp only[ArH]at this;unfold wt;grind
 refine ALX hL y.op y.type k hw ⟨fun id hid => ?_,fun s a1 a2 => ?_,fun s a1 a2 => ?_,(DB _ _).symm,fun id hid => ?_⟩;obtain⟨c,hc,rfl⟩:=AqU.1 hid;exact(hsame _ (Jq (wtS c hc))).symm;symm;refine Bf _ _ fun p hp => ?_;rintro rfl;rcases q2 p hp with h|⟨hwx,h⟩
 omega;exact h2 _ (Jq h) ⟨a1,a2⟩;rw[Av];grind;obtain⟨c,hc,rfl⟩:=AqU.1 hid;rw[Av];grind;have hag:Re (Jo (An st.tmps) y.op) sy (slotsOf y.op) (Dg (An st.tmps) y.op) (A5 ex.objs st.heap) st.heap (AY ex.frz st.frz) st.frz:=by
  refine⟨fun id hid => ?_,fun s a1 a2 => ?_,fun s a1 a2 => ?_,DB _ _,fun id hid => ?_⟩;have hφ:=Wb hw hid;grind;refine Bf _ _ fun p hp => ?_;rintro rfl;rcases q2 p hp with h|⟨hwx,h⟩
  omega;exact h2 _ (Jq h) ⟨a1,a2⟩;rw[Av];grind;rw[Av];have hφ:=AIQ hww hid;grind
 rw[B0 y.op y.type _ _ sy k hput];exact AGL hL y.op y.type k hag hl
theorem AEk{ρ ρ':Operand→AV}{o:Op}(h:∀ z∈o.operands,ρ z=ρ' z):Dg ρ o=Dg ρ' o:=by
 unfold Dg;split;rw[h _ (by simp[Op.operands])];rw[h _ (by simp[Op.operands])];rw[h _ (by simp[Op.operands])];rw[h _ (by simp[Op.operands])];rw[h _ (by simp[Op.operands])];rename_i args ts;cases ha:args.toList with
  |nil=>rfl
  |cons s r=>
   have:s∈args:=by
    have:s∈args.toList:=by grind
    grind
   simp only;rw[h s (by simp[Op.operands,Call.operands];omega)]
 rename_i args ts;cases ha:args.toList with
  |nil=>rfl
  |cons s r=>
   have:s∈args:=by
    have:s∈args.toList:=by grind
    grind
   simp only;rw[h s (by simp[Op.operands,Call.operands];omega)]
 rfl
theorem Ke{ρ ρ':Operand→AV}{o:Op}(h:∀ z∈o.operands,ρ z=ρ' z):G5 ρ o=G5 ρ' o:=by
 unfold G5;have key:∀ l:List Operand,(∀ z∈l,ρ z=ρ' z)→(l.flatMap fun x=>Ag (ρ x))=l.flatMap fun x=>Ag (ρ' x):=by
  intro l;induction l with
   |nil=>simp
   |cons x l ih=>grind
 grind
theorem AIf{ρ ρ':Operand→AV}{o:Op}(h:∀ z∈o.operands,ρ z=ρ' z):Jo ρ o=Jo ρ' o:=by
 cases o with
  |store T x y=>simp only[Jo];rw[h x (by simp[Op.operands]),Ke h]
  |move x=>rfl
  |assign x=>rfl
  |pick c a b=>rfl
  |extract x i=>rfl
  |build T ps=>rfl
  |makeFunc f a b=>rfl
  |_=>exact Ke h
theorem AAN{ρ ρ':Operand→AV}{o:Op}(h:∀ z∈o.operands,ρ z=ρ' z):FD E ρ o=FD E ρ' o:=by unfold FD;split;rename_i f args ts;rw[h f (by simp[Op.operands,Call.operands])];rfl
theorem Gy{H:List Ob}{ρ ρ':Operand→AV}{o:Op}{φ:List Nat}(h:∀ z∈o.operands,ρ z=ρ' z)(hk:Kn E H ρ o φ):Kn E H ρ' o φ:=by
 rcases hk with⟨h0,hk⟩|⟨h1,h2,h3⟩
 refine .inl ⟨h0,?_⟩;have e:SM E ρ o=SM E ρ' o:=by unfold SM;split;rename_i f args ts;rw[h f (by simp[Op.operands,Call.operands])];rfl
 unfold KT at *;rw[← e,← Ke h];exact hk;rw[AIf h]at h1;rw[AEk h]at h2;rw[AAN h]at h3;exact .inr ⟨h1,h2,h3⟩
theorem N5{R:Type}{o:Op}(h:Bu o=true)(ty:TypeId)(ρ:Operand→AV)(H H':List Ob)(fz fz':List Bool)(slot:Nat)(k:AV→Eff→Option R):
  evalOp P E R o ty ρ H fz slot k=evalOp P E R o ty ρ H' fz' slot k:=by cases o<;>first|rfl|(simp only[Bu,AqC]at h)
theorem LC{o:Op}(h:Bu o=true)(ty:TypeId)(ρ:Operand→AV)(H:List Ob)(fz:List Bool)(slot:Nat){v:AV}{e:Eff}
  (hk:∀ (R:Type) (k:AV→Eff→Option R),evalOp P E R o ty ρ H fz slot k=k v e):e = {}:=by
 have:=hk Eff (fun _ e=>some e);cases o<;>first|(simp only[Bu,AqC]at h;done)|skip
 all_goals
  simp only[evalOp,Si,Cm,Sh,KC]at this
  grind
theorem MX{o:Op}(h:Ct o=true)(ty:TypeId)(ρ:Operand→AV)(H:List Ob)(fz:List Bool)(slot:Nat){v:AV}{e:Eff}
  (hk:∀ (R:Type) (k:AV→Eff→Option R),evalOp P E R o ty ρ H fz slot k=k v e):e = {}:=by
 by_cases hh:Bu o=true;exact LC hh ty ρ H fz slot hk;have:=hk Eff (fun _ e=>some e);cases o with
  |call c=>
   obtain⟨callee,args,ts⟩:=c;cases callee with
    |builtin b=>
     cases b<;>first|(simp only[Ct,Bu,AqC]at h;done)|skip
     simp only[evalOp,MS]at this;grind
    |_=>simp only[Ct,Bu,AqC]at h
  |slice T x lo hi mx=>
   cases mx with
    |some m=>simp only[Ct,Bu,AqC]at h
    |none=>
     simp only[evalOp,Cl,GP]at this;repeat' split at this
     all_goals grind
  |makeFunc fn first cs=>
   cases fn<;>first|(simp only[Ct,Bu,AqC]at h;done)|skip
   simp only[evalOp,En]at this;grind
  |load _ _|convert _ _ _|fieldAddr _ _ _|field _ _ _|indexAddr _ _ _|index _ _ _|nilCheck _|lookup _ _ _ _|build _ _=>
   simp only[evalOp,LF,GD,Qu,C8,LD,BY,Jh,Ds,Cs]at this;repeat' split at this
   all_goals first|(cases this;done)|(simp only[Apq]at this;exact this.symm)
  |_=>first|exact absurd h hh|(simp only[Ct,Bu,AqC]at h;done)|exact absurd rfl hh
theorem AWa{H:List Ob}{ρ:Operand→AV}{o:Op}{φ:List Nat}(h:Bu o=true)(hk:Kn E H ρ o φ):within (Jo ρ o) φ=true∧M5 (Dg ρ o) φ=true∧FD E ρ o=true:=by rcases hk with⟨_,hk⟩|hk;exfalso;unfold KT at hk;simp only[Apt]at hk;have:=hk.2;unfold SM at this;split at this;cases h;grind;omega
theorem APN{all:List Oper}{x y:Oper}{φx φy:List Nat}{sx sy:Nat}(hap:apart? all x y=true)(hn:Kg φx=true)(hl:Bu y.op=true)
  {st s1 s2:St} (hx:CV P E all x φx sx st s1) (hy:CV P E all y φy sy s1 s2):∃ s1',CV P E all y φy sy st s1'∧CV P E all x φx sx s1' s2:=by
 have hap':=Is hap;obtain⟨_,hdd,_⟩:=Oper.apart_spec hap;have gx:∀ (v:AV) (H:List Ob) (F:List Bool) (s:St),DR all y.guard ({ s with heap:=H,frz:=F }.put x.dst v)=DR all y.guard s:=fun v H F s=>Gs hap s v H F;have gy:∀ (v:AV) (H:List Ob) (F:List Bool) (s:St),DR all x.guard ({ s with heap:=H,frz:=F }.put y.dst v)=DR all x.guard s:=fun v H F s=>Gs hap' s v H F;have first:∀ (s1:St),(∀ z∈y.op.operands,An s1.tmps z=An st.tmps z)→DR all y.guard s1=DR all y.guard st→CV P E all y φy sy s1 s2→∃ vy,CV P E all y φy sy st (st.put y.dst vy)∧s2=s1.put y.dst vy:=by
  intro s1 hput hg hy;rcases hy with⟨g2,vy,ey,hqy,b3,rfl⟩|⟨g2,rfl⟩
  have he:=LC hl _ _ _ _ _ b3;subst he;refine⟨vy,.inl ⟨by grind,vy,{},?_,fun R k => ?_,rfl⟩,rfl⟩;rcases hqy with h|⟨h1,h4⟩
  grind;exact .inr ⟨.inr (AWa hl (Gy hput h1)),h4⟩;rw[← b3 R k,B0 y.op y.type _ _ sy k hput];exact N5 hl _ _ _ _ _ _ _ _;exact⟨Ba,.inr ⟨by grind,rfl⟩,rfl⟩
 have put1:∀ (v:AV) (s:St),∀ z∈y.op.operands,An (s.put x.dst v).tmps z=An s.tmps z:=fun v s z hz=>Br hap s v z hz;rcases hx with⟨g1,vx,ex,hqx,a3,rfl⟩|⟨g1,rfl⟩
 obtain⟨vy,h1,rfl⟩:=first _ (put1 vx (st.app ex)) (gx vx (CH ex st.heap) (EY ex st.frz) st) hy
 refine⟨_,h1,.inl ⟨?_,vx,ex,.inl hn,fun R k => ?_,?_⟩⟩;simp_all;have hh:(st.put y.dst vy).heap=st.heap∧(st.put y.dst vy).frz=st.frz:=by cases y.dst<;>exact⟨rfl,rfl⟩
 rw[hh.1,hh.2,B0 x.op x.type _ _ sx k fun z hz=>Br hap' st vy z hz];grind;rw[St.He,St.put_comm _ vx vy hdd];obtain⟨vy,h1,rfl⟩:=first _ (put1 Ba st) (gx Ba st.heap st.frz st) hy
 refine⟨_,h1,.inr ⟨?_,?_⟩⟩;simp_all;rw[St.put_comm _ Ba vy hdd]
theorem APM{all:List Oper}{x y:Oper}{φx φy:List Nat}{sx sy:Nat}(hap:apart? all x y=true)(hn:Kg φy=true)(hl:Bu x.op=true)
  {st s1 s2:St} (hx:CV P E all x φx sx st s1) (hy:CV P E all y φy sy s1 s2):∃ s1',CV P E all y φy sy st s1'∧CV P E all x φx sx s1' s2:=by
 have hap':=Is hap;obtain⟨_,hdd,_⟩:=Oper.apart_spec hap;have gx:∀ (v:AV) (s:St),DR all y.guard (s.put x.dst v)=DR all y.guard s:=fun v s=>Gs hap s v s.heap s.frz;have gy:∀ (v:AV) (H:List Ob) (F:List Bool) (s:St),DR all x.guard ({ s with heap:=H,frz:=F }.put y.dst v)=DR all x.guard s:=fun v H F s=>Gs hap' s v H F;have hh:∀ v:AV,(st.put x.dst v).heap=st.heap∧(st.put x.dst v).frz=st.frz:=fun v=>by cases x.dst<;>exact⟨rfl,rfl⟩
 have behind:∀ (s:St) (vx:AV),(∀ z∈x.op.operands,An s.tmps z=An st.tmps z)→DR all x.guard s=DR all x.guard st→CV P E all x φx sx st (st.put x.dst vx)→(∃ v,CV P E all x φx sx st (st.put x.dst v)):=fun s vx _ _ h=>⟨vx,h⟩
 have xs:∃ vx,s1=st.put x.dst vx∧∀ s:St,(∀ z∈x.op.operands,An s.tmps z=An st.tmps z)→DR all x.guard s=DR all x.guard st→CV P E all x φx sx s (s.put x.dst vx):=by
  rcases hx with⟨g1,vx,ex,hqx,a3,rfl⟩|⟨g1,rfl⟩
  have he:=LC hl _ _ _ _ _ a3;subst he;refine⟨vx,rfl,fun s hput hg=>.inl ⟨by grind,vx,{},?_,fun R k => ?_,rfl⟩⟩;rcases hqx with h|⟨h1,h4⟩
  grind;exact .inr ⟨.inr (AWa hl (Gy (fun z hz=>(hput z hz).symm) h1)),h4⟩;rw[← a3 R k,B0 x.op x.type _ _ sx k hput];exact N5 hl _ _ _ _ _ _ _ _;exact⟨Ba,rfl,fun s _ hg=>.inr ⟨by grind,rfl⟩⟩
 obtain⟨vx,rfl,hxs⟩:=xs;have hput:∀ z∈y.op.operands,An (st.put x.dst vx).tmps z=An st.tmps z:=fun z hz=>Br hap st vx z hz;rcases hy with⟨g2,vy,ey,hqy,b3,rfl⟩|⟨g2,rfl⟩
 refine⟨(st.app ey).put y.dst vy,.inl ⟨by grind,vy,ey,.inl hn,fun R k => ?_,rfl⟩,?_⟩;have:=b3 R k;rw[(hh vx).1,(hh vx).2,B0 y.op y.type _ _ sy k hput]at this;omega;have:=hxs ((st.app ey).put y.dst vy) (fun z hz=>Br hap' (st.app ey) vy z hz) (gy vy (CH ey st.heap) (EY ey st.frz) st);rw[St.He,St.put_comm _ vx vy hdd];omega;refine⟨st.put y.dst Ba,.inr ⟨by grind,rfl⟩,?_⟩;have:=hxs (st.put y.dst Ba) (fun z hz=>Br hap' st Ba z hz) (gy Ba st.heap st.frz st);rw[St.put_comm _ vx Ba hdd];omega
theorem APO(hL:D1 E){all:List Oper}{x y:Oper}{φx φy:List Nat}{sx sy:Nat}(hap:apart? all x y=true)(n1:Kg φx=false)(n2:Kg φy=false)(i1:∀ i,rd φy i=true→¬ (sx≤i∧i<sx+slotsOf x.op))(i2:∀ i,rd φx i=true→¬ (sy≤i∧i<sy+slotsOf y.op))(i3:∀ i,wt φx i=true→rd φy i=true→False)(i4:∀ i,wt φy i=true→rd φx i=true→False)(hsl:sx+slotsOf x.op≤sy)
  {st s1 s2:St} (hx:CV P E all x φx sx st s1) (hy:CV P E all y φy sy s1 s2):∃ s1',CV P E all y φy sy st s1'∧CV P E all x φx sx s1' s2:=by
 have hap':=Is hap;obtain⟨_,hdd,_⟩:=Oper.apart_spec hap;have gx:∀ (v:AV) (H:List Ob) (F:List Bool) (s:St),DR all y.guard ({ s with heap:=H,frz:=F }.put x.dst v)=DR all y.guard s:=fun v H F s=>Gs hap s v H F;have gy:∀ (v:AV) (H:List Ob) (F:List Bool) (s:St),DR all x.guard ({ s with heap:=H,frz:=F }.put y.dst v)=DR all x.guard s:=fun v H F s=>Gs hap' s v H F;have gxa:∀ v e,DR all y.guard ((st.app e).put x.dst v)=DR all y.guard st:=fun v e=>gx v (CH e st.heap) (EY e st.frz) st;have gya:∀ v e,DR all x.guard ((st.app e).put y.dst v)=DR all x.guard st:=fun v e=>gy v (CH e st.heap) (EY e st.frz) st;rcases hx with⟨g1,vx,ex,hqx,a3,rfl⟩|⟨g1,rfl⟩
 obtain⟨a1,a4⟩:=hqx.resolve_left (by grind);rcases hy with⟨g2,vy,ey,hqy,b3,rfl⟩|⟨g2,rfl⟩
 obtain⟨b1,b4⟩:=hqy.resolve_left (by grind);have hput:∀ z∈y.op.operands,An ((st.app ex).put x.dst vx).tmps z=An st.tmps z:=fun z hz=>Br hap (st.app ex) vx z hz;have b1:=Gy hput b1;have ov:=ABr (P:=P) hL hap i1 i2 i3 i4 (.inl hsl) (vx:=vx) a4 (.inl b1);refine⟨(st.app ey).put y.dst vy,.inl ⟨by grind,vy,ey,.inr ⟨AG4 (ACt i1 i3 a4) b1,b4⟩,fun R k=>by grind,rfl⟩,?_⟩;have hput':∀ z∈x.op.operands,An ((st.app ey).put y.dst vy).tmps z=An st.tmps z:=fun z hz=>Br hap' (st.app ey) vy z hz;have ov':=ABr (P:=P) hL hap' i2 i1 i4 i3 (.inr hsl) (st:=st) (vx:=vy) b4 (.inr a1);refine .inl ⟨by grind,vx,ex,.inr ⟨Gy (fun z hz=>(hput' z hz).symm) (AG4 (fun i hi=>(ACt i2 i4 b4 i hi).symm) a1),a4⟩,fun R k=>by grind,?_⟩;obtain⟨p1,p2,p3⟩:=LH a4;obtain⟨r1,r2,r3⟩:=LH b4;have hdis:∀ p∈ey.objs,∀ q∈ex.objs,p.1≠q.1:=by
  intro p hp q hq he;rcases r2 p hp with h|⟨hw,h⟩<;>rcases p2 q hq with h'|⟨hw',h'⟩
  omega;exact i2 _ (Jq h') (he▸h);exact i1 _ (Jq h) (he▸h');exact i3 _ h' (he▸Jq h)
 rw[St.He,St.He,St.put_comm _ vx vy hdd];congr 2;unfold St.app;rw[CP p1,CP r1,Cd p1,Cd r1,CP r1,CP p1,Cd r1,Cd p1,AE1 _ _ hdis,AI2];refine⟨st.put y.dst Ba,.inr ⟨by grind,rfl⟩,.inl ⟨?_,vx,ex,.inr ⟨?_,a4⟩,fun R k => ?_,?_⟩⟩;simp_all;have hh:(st.put y.dst Ba).heap=st.heap:=by cases y.dst<;>rfl
 rw[hh];exact Gy (fun z hz=>(Br hap' st Ba z hz).symm) a1;have hh:(st.put y.dst Ba).heap=st.heap∧(st.put y.dst Ba).frz=st.frz:=by cases y.dst<;>exact⟨rfl,rfl⟩
 rw[hh.1,hh.2,B0 x.op x.type _ _ sx k fun z hz=>Br hap' st Ba z hz];grind;rw[St.He,St.put_comm _ vx Ba hdd];rcases hy with⟨g2,vy,ey,hqy,b3,rfl⟩|⟨g2,rfl⟩
 obtain⟨b1,b4⟩:=hqy.resolve_left (by grind);have hh:(st.put x.dst Ba).heap=st.heap∧(st.put x.dst Ba).frz=st.frz:=by cases x.dst<;>exact⟨rfl,rfl⟩
 rw[hh.1]at b1;have hput:∀ z∈y.op.operands,An (st.put x.dst Ba).tmps z=An st.tmps z:=fun z hz=>Br hap st Ba z hz;have b1:=Gy hput b1;refine⟨(st.app ey).put y.dst vy,.inl ⟨by simp_all,vy,ey,.inr ⟨b1,b4⟩,fun R k => ?_,rfl⟩,.inr ⟨by grind,?_⟩⟩;have:=b3 R k;rw[hh.1,hh.2,B0 y.op y.type _ _ sy k hput]at this;omega;rw[St.He,St.put_comm _ Ba vy hdd]
 exact⟨st.put y.dst Ba,.inr ⟨by simp_all,rfl⟩,
  .inr ⟨by simp_all,St.put_comm _ Ba Ba hdd⟩⟩
def AWY(H H':List Ob)(id:Nat):Prop:=(∃ a b es,H[id]? = some (.map a b es))∧∃ a b es,H'[id]? = some (.map a b es)
theorem Ey{H H':List Ob}(h:∀ id,H[id]? = H'[id]?∨AWY H H' id)(t:Ty)(v:AV):Dy H t v=Dy H' t v:=by
 cases v<;>simp only[Dy]
 ·rename_i id;rcases h id with h|⟨⟨a,b,es,h1⟩,a',b',es',h2⟩
  all_goals grind
 ·rename_i id off n;rcases h id with h|⟨⟨a,b,es,h1⟩,a',b',es',h2⟩
  all_goals grind
 ·rename_i id;rcases h id with h|⟨⟨a,b,es,h1⟩,a',b',es',h2⟩
  all_goals grind
theorem Aag{α:Type}{one one':List AV→Option (α×List Nat×List AV)}(h1:∀ cs,one cs=one' cs):∀ (n:Nat) (cs:List AV),QU one n cs=QU one' n cs:=by
 intro n;induction n with
  |zero=>intro cs;rfl
  |succ n ih=>intro cs;simp only[QU];grind
theorem AFz{H H':List Ob}(h:∀ id,H[id]? = H'[id]?∨AWY H H' id):∀ (t:Ty) (cs:List AV),Al H t cs=Al H' t cs:=by
 intro t;induction t with
  |unit=>intro cs;cases cs<;>rfl
  |bool=>intro cs;cases cs with
   |nil=>rfl
   |cons c cs=>unfold Al;rw[Ey h .bool c]
  |int k=>intro cs;cases cs with
   |nil=>rfl
   |cons c cs=>unfold Al;rw[Ey h (.int k) c]
  |slice e _=>intro cs;cases cs with
   |nil=>rfl
   |cons c cs=>unfold Al;rw[Ey h (.slice e) c]
  |nul e=>intro cs;cases cs with
   |nil=>rfl
   |cons c cs=>unfold Al;rw[Ey h (.nul e) c]
  |mapi j e _=>intro cs;cases cs with
   |nil=>rfl
   |cons c cs=>unfold Al;rw[Ey h (.mapi j e) c]
  |prod a b iha ihb=>intro cs;simp only[Al];grind
  |arr n e ih=>intro cs;simp only[Al];exact Aag ih n cs
theorem AcI{H H':List Ob}(h:∀ id,H[id]? = H'[id]?∨AWY H H' id)(t:Ty)(v:AV):E0 H t v=E0 H' t v:=by unfold E0;split;cases v<;>simp only[asAgg];rename_i cs;rw[AFz h t cs];exact Ey h t v
theorem AaM{α β:Type}[DecidableEq α](es:List (α×β))(k j:α)(z:β):(AR (Ae es k ((AR es k).getD z)) j).getD z=(AR es j).getD z:=by
 have key:∀ (es:List (α×β)) (v:β),AR (Ae es k v) j=if j=k then some v else AR es j:=by
  intro es v;induction es with
   |nil=>simp only[Ae,AR];grind
   |cons e es ih=>obtain⟨a,x⟩:=e;by_cases h1:a=k;subst h1;simp only[Ae,AR,AqP];grind;simp only[Ae,AR,h1,AqB,ih];grind
 grind
theorem AFl{R:Type}{H:List Ob}{j:Nat}{a b:Ty}{es es':List (a.den×b.den)}(hj:H[j]? = some (.map a b es))(hval:∀ key:a.den,(AR (α:=a.den) es' key).getD b.zero=(AR (α:=a.den) es key).getD b.zero)
  (T:TypeId) (m x:Operand) (ty:TypeId) (ρ:Operand→AV) (fz fz':List Bool) (slot slot':Nat) (kk:AV→Eff→Option R) :
  evalOp P E R (.lookup T m x false) ty ρ (H.set j (.map a b es')) fz' slot' kk=evalOp P E R (.lookup T m x false) ty ρ H fz slot kk:=by
 have hlt:=Aj hj;have hm:∀ id,(H.set j (.map a b es'))[id]? = H[id]?∨AWY (H.set j (.map a b es')) H id:=fun id=>by by_cases hid:id=j;subst hid;exact .inr ⟨⟨a,b,es',Ax hlt⟩,a,b,es,hj⟩;grind
 simp only[evalOp,Ds,AcI hm];cases P.underlying T with
  |none=>rfl
  |some d=>
   cases d with
    |map kt vt=>
     by_cases hmp:∃ id,ρ m = .mp id
     case neg=>
      grind
     obtain⟨id,hv⟩:=hmp;rw[hv];dsimp only;by_cases hid:id=j;all_goals grind
    |_=>rfl
theorem AFj{H:List Ob}{fz:List Bool}{T:TypeId}{m x:Operand}{ty:TypeId}{ρ:Operand→AV}{slot:Nat}{v:AV}{e:Eff}(h:∀ (R:Type) (k:AV→Eff→Option R),evalOp P E R (.mapEntry T m x) ty ρ H fz slot k=k v e):
  ∃ id a b es,∃ key:a.den,H[id]? = some (.map a b es)∧e = { objs:=[(id,.map a b (Ae (α:=a.den) es key ((AR (α:=a.den) es key).getD b.zero)))] }:=by have:=h Eff (fun _ e=>some e);simp only[evalOp,GC]at this;grind
theorem AWZ{H H':List Ob}{ρ:Operand→AV}{o:Op}{φ:List Nat}(hw:Li φ=false)(hk:Kn E H ρ o φ):Kn E H' ρ o φ:=by rcases hk with⟨h1,_⟩|hk;grind;exact .inr hk
theorem APL{all:List Oper}{x y:Oper}{φx φy:List Nat}{sx sy:Nat}(hap:apart? all x y=true)(w1:Li φx=false)(w2:Li φy=false)(hm:WG x.op y.op=true)
  {st s1 s2:St} (hx:CV P E all x φx sx st s1) (hy:CV P E all y φy sy s1 s2):∃ s1',CV P E all y φy sy st s1'∧CV P E all x φx sx s1' s2:=by
 have hap':=Is hap;obtain⟨_,hdd,_⟩:=Oper.apart_spec hap;obtain⟨T,m,kx,ok,hxo,T',m',ky,hyo,hok⟩:∃ T m kx ok,x.op = .lookup T m kx ok∧∃ T' m' ky,y.op = .mapEntry T' m' ky∧ok=false:=by cases hxo:x.op<;>cases hyo:y.op<;>rw[hxo,hyo]at hm<;>simp only[WG,AqC]at hm;grind
 subst hok;have gx:∀ (v:AV) (s:St),DR all y.guard (s.put x.dst v)=DR all y.guard s:=fun v s=>Gs hap s v s.heap s.frz;have gy:∀ (v:AV) (H:List Ob) (F:List Bool) (s:St),DR all x.guard ({ s with heap:=H,frz:=F }.put y.dst v)=DR all x.guard s:=fun v H F s=>Gs hap' s v H F;have hh:∀ v:AV,(st.put x.dst v).heap=st.heap∧(st.put x.dst v).frz=st.frz:=fun v=>by cases x.dst<;>exact⟨rfl,rfl⟩
 have xs:∃ vx,s1=st.put x.dst vx∧∀ s:St,(∀ z∈x.op.operands,An s.tmps z=An st.tmps z)→DR all x.guard s=DR all x.guard st →
   (s.heap=st.heap∨∃ j a b es es',st.heap[j]? = some (.map a b es)∧s.heap=st.heap.set j (.map a b es')∧∀ key:a.den,(AR (α:=a.den) es' key).getD b.zero=(AR (α:=a.den) es key).getD b.zero)→CV P E all x φx sx s (s.put x.dst vx):=by
  rcases hx with⟨g1,vx,ex,hqx,a3,rfl⟩|⟨g1,rfl⟩
  ·have he:=MX (by rw[hxo];rfl) _ _ _ _ _ a3
   subst he
   refine⟨vx,rfl,fun s hput hg hH=>.inl ⟨by grind,vx,{},?_,fun R k => ?_,rfl⟩⟩
   ·rcases hqx with h|⟨h1,h4⟩
    ·grind
    ·exact .inr ⟨AWZ w1 (Gy (fun z hz=>(hput z hz).symm) h1),h4⟩
   ·rw[← a3 R k,B0 x.op x.type _ _ sx k hput]
    rcases hH with hH|⟨j,a,b,es,es',h1,h2,h3⟩
    ·rw[hH,hxo];rfl
    ·rw[h2,hxo]
     exact AFl h1 h3 _ _ _ _ _ _ _ _ _ _
  ·exact⟨Ba,rfl,fun s _ hg _=>.inr ⟨by grind,rfl⟩⟩
 obtain⟨vx,rfl,hxs⟩:=xs;have hput:∀ z∈y.op.operands,An (st.put x.dst vx).tmps z=An st.tmps z:=fun z hz=>Br hap st vx z hz;rcases hy with⟨g2,vy,ey,hqy,b3,rfl⟩|⟨g2,rfl⟩
 have b3':∀ (R:Type) (k:AV→Eff→Option R),evalOp P E R y.op y.type (An st.tmps) st.heap st.frz sy k=k vy ey:=fun R k=>by have:=b3 R k;rw[(hh vx).1,(hh vx).2,B0 y.op y.type _ _ sy k hput]at this;omega
 refine⟨(st.app ey).put y.dst vy,.inl ⟨by grind,vy,ey,?_,b3',rfl⟩,?_⟩;rcases hqy with h|⟨h1,h4⟩
 grind;exact .inr ⟨AWZ w2 (Gy hput h1),h4⟩;rw[hyo]at b3';obtain⟨j,a,b,es,key,ho,rfl⟩:=AFj b3'
 have:=hxs ((st.app { objs:=[(j,.map a b (Ae (α:=a.den) es key ((AR (α:=a.den) es key).getD b.zero)))] }).put y.dst vy) (fun z hz=>Br hap' (st.app _) vy z hz) (gy vy _ _ st)
  (.inr ⟨j,a,b,es,_,ho,by cases y.dst<;>rfl,fun k=>AaM (α:=a.den) es key k b.zero⟩)
 rw[St.He,St.put_comm _ vx vy hdd];omega;refine⟨st.put y.dst Ba,.inr ⟨by grind,rfl⟩,?_⟩;have:=hxs (st.put y.dst Ba) (fun z hz=>Br hap' st Ba z hz) (gy Ba st.heap st.frz st) (.inl (by cases y.dst<;>rfl));rw[St.put_comm _ vx Ba hdd];omega
theorem AYH(hL:D1 E){all:List Oper}{x y:Oper}{φx φy:List Nat}{sx sy:Nat}(hin:indep all x y φx φy sx sy=true)(hsl:sx+slotsOf x.op≤sy)
  {st s1 s2:St} (hx:CV P E all x φx sx st s1) (hy:CV P E all y φy sy s1 s2):∃ s1',CV P E all y φy sy st s1'∧CV P E all x φx sx s1' s2:=by
 obtain⟨hap,h⟩:=MH hin;rcases h with⟨w1,w2,hm⟩|⟨h1,h2⟩|⟨h1,h2⟩|⟨n1,n2,i1,i2,i3,i4⟩
 exact APL hap w1 w2 hm hx hy;exact APN hap h1 h2 hx hy;exact APM hap h1 h2 hx hy;exact APO hL hap n1 n2 i1 i2 i3 i4 hsl hx hy
end
end Go.Pev
end
section
namespace Go.Pev
open Go.RowKit
section
variable [DfI] {P:Program} {E:Env}
theorem AKj{all:List Oper}{y:Oper}{φy:List Nat}{sy:Nat}:∀ {l:List (Nat×Oper×List Nat×Nat)},WE all y φy sy l=true→∀ q∈l,reach all 8 y q.1=true∨indep all q.2.1 y q.2.2.1 φy q.2.2.2 sy=true:=by
 intro l;induction l with
  |nil=>simp
  |cons p l ih=>
   intro h q hq;obtain⟨i,x,φx,sx⟩:=p;simp only[WE,Apt,Aqu]at h;rcases Apv.1 hq with rfl|hq;·rcases h.1 with h1|h1|h1;exact .inl (by simp only[reach,h1,Bool.true_or]);all_goals grind
   grind
theorem P8{all:List Oper}{fp:List (List Nat)}{base:Nat}:∀ (rest pre:List Oper) (fp':List (List Nat)) (slot:Nat) (acc:List (Nat×Oper×List Nat×Nat)),all=pre++rest→fp'=fp.drop pre.length→slot=BC all base pre.length →
  (∀ j x,j<pre.length→all[j]? = some x→(j,x,fp.getD j [],BC all base j)∈acc)→Xu all rest fp' pre.length slot acc=true →
  ∀ i y,pre.length≤i→all[i]? = some y→(∀ e∈y.after.toList,Region.binds .any e=true→e.on<i) ∧
   ∀ j x,j<i→all[j]? = some x→reach all 8 y j=true∨indep all x y (fp.getD j []) (fp.getD i []) (BC all base j) (BC all base i)=true:=by
 intro rest;induction rest with
  |nil=>grind
  |cons o rest ih=>
   intro pre fp' slot acc hall hfp hsl hacc h i y hi hy;simp only[Xu,Apt]at h;obtain⟨⟨h1,h2⟩,h3⟩:=h;have hlen:(pre++[o]).length=pre.length+1:=by simp
   have hfp1:fp'.headD []=fp.getD pre.length []:=by rw[hfp,Apu,List.headD_eq_head?_getD,List.head?_drop]
   have hfp2:fp'.tail=fp.drop (pre++[o]).length:=by rw[hfp,hlen,List.tail_drop]
   have hs2:slot+slotsOf o.op=BC all base (pre++[o]).length:=by
    rw[hsl,hlen];unfold BC;have e1:all.take (pre.length+1)=pre++[o]:=by grind
    have e2:all.take pre.length=pre:=by grind
    rw[e1,e2,IS];simp[B9];omega
   have ho:all[pre.length]? = some o:=by grind
   rcases Aru pre.length i with hlt|hge;refine ih (pre++[o]) _ _ _ (by grind) hfp2 hs2 (fun j x hj hx => ?_) (by rw[hlen];exact h3) i y (by omega) hy;grind;have hip:i=pre.length:=by omega
   subst hip;rw[ho]at hy;cases hy;refine⟨fun e he hb => ?_,fun j x hj hx => ?_⟩;grind;rw[hfp1,hsl]at h1;exact AKj h1 _ (hacc j x hj hx)
theorem AYK{all:List Oper}{base i j:Nat}{x:Oper}(hij:j<i)(hx:all[j]? = some x):BC all base j+slotsOf x.op≤BC all base i:=by
 unfold BC;have hjl:j<all.length:=by grind
 have e:all.take (j+1)=all.take j++[x]:=by rw[Arv hjl];grind
 have e2:all.take i=all.take (j+1)++(all.drop (j+1)).take (i-(j+1)):=by rw[← List.take_add];congr 1;omega
 rw[e2,e,IS,IS];simp[B9];omega
theorem Mn(hL:D1 E){all:List Oper}{fp:Nat→List Nat}{base:Nat}{i:Nat}{y:Oper}(hy:all[i]? = some y):
  ∀ (l1 l2:List Nat) (st st':St),(∀ j∈l1,j<i∧∀ x,all[j]? = some x→indep all x y (fp j) (fp i) (BC all base j) (BC all base i)=true) →
   HL P E all fp (BC all base) (l1++i::l2) st st'→HL P E all fp (BC all base) (i::(l1++l2)) st st':=by
 intro l1;induction l1 with
  |nil=>simp
  |cons j l1 ih=>intro l2 st st' hj h;obtain⟨x,s1,hx,h1,h2⟩:=h;obtain⟨y',s2,hy',h3,h4⟩:=ih l2 s1 st' (fun k hk=>hj k (by simp[hk])) h2;rw[hy]at hy';cases hy';obtain⟨hlt,hin⟩:=hj j (by simp);obtain⟨s1',h5,h6⟩:=AYH hL (hin x hx) (AYK hlt hx) h1 h3;exact⟨y,s1',hy,h5,x,s2,hx,h6,h4⟩
def Ac(n:Nat)(listed:Array Bool):List Nat:=(List.range n).filter fun i => !listed.getD i true
theorem PX{n:Nat}{listed:Array Bool}{i:Nat}(hs:listed.size=n)(l1 l2:List Nat)(h:Ac n listed=l1++i::l2):Ac n (listed.setIfInBounds i true)=l1++l2:=by
 have hnd:(Ac n listed).Nodup:=AsC _ List.nodup_range;have hmem:i∈Ac n listed:=by grind
 have hin:i<n:=by unfold Ac at hmem;grind
 have e:Ac n (listed.setIfInBounds i true)=(Ac n listed).filter fun j=>decide (j≠i):=by
  unfold Ac;rw[List.filter_filter];apply List.filter_congr;intro j hj;have hjn:j<n:=by grind
  by_cases hji:j=i;simp_all;simp[AqM,Array.getElem?_setIfInBounds_ne (Aq2 hji),hji]
 rw[e,h];rw[h]at hnd;rw[Arl]at hnd;obtain⟨_,hn2,hd⟩:=hnd;rw[Ar2,List.filter_cons];simp only[ne_eq,Aqt,AqA,AqC,AqB];rw[Arz.2,Arz.2];all_goals grind
theorem LU{n:Nat}{listed:Array Bool}{i:Nat}{l1 l2:List Nat}(h:Ac n listed=l1++i::l2):∀ j∈l1,j<i:=by
 have hp:(Ac n listed).Pairwise (· < ·):=AsC _ Asa
 grind
def S7(ops:List Oper)(listed:Nat→Bool):Prop:=∀ k z,ops[k]? = some z→listed k=true→∀ e∈z.after.toList,Region.binds .any e=true→listed e.on=true
theorem Py{ops:List Oper}{listed:Nat→Bool}(hc:S7 ops listed):∀ (n:Nat) (y:Oper) (j:Nat),(∀ e∈y.after.toList,Region.binds .any e=true→listed e.on=true)→reach ops n y j=true→listed j=true:=by
 intro n;induction n with
  |zero=>intro y j _ h;cases h
  |succ n ih=>intro y j hy h;simp only[reach,Aqu]at h;rcases h with h|h;unfold AF8 at h;grind;rw[Arw]at h;obtain⟨e,he,hbe⟩:=h;simp only[Apt]at hbe;obtain⟨h1,h2⟩:=hbe;split at h2;rename_i z hz;exact ih z j (hc e.on z hz (hy e he h1)) h2;grind
theorem AEt(hE:∀ g,Ak P g (E.spec g)){ops:Array Oper}{i:Nat}{o:Oper}{φ:List Nat}{slot:Nat}{st s1:St}{Q:Exit→Act→World→Prop}{K:Act→World→Prop}{w:World}{F:Nat→Prop}{m:Mp}{a:Act}(hgi:ops[i]? = some o)(h1:CV P E ops.toList o φ slot st s1)(hs:SI w F m st a)
  (hk:∀ a' w' F' m',SI w' F' m' s1 a'→Ext w F m st.heap st.frz w' F' m' s1.heap s1.frz→K a' w'):wpOp P ops Q i K a w:=by
 unfold wpOp;rw[hgi];simp only;have hput:∀ (s:St) (v:AV),(s.put o.dst v).heap=s.heap∧(s.put o.dst v).frz=s.frz:=fun s v=>by cases o.dst<;>exact⟨rfl,rfl⟩
 rcases h1 with⟨hg,v,e,_,b3,rfl⟩|⟨hg,rfl⟩
 ·have hw:Region.wanted o (yielded ops a.tmps)=true:=by
   unfold DR at hg;unfold Region.wanted;cases hgd:o.guard with
    |none=>rfl
    |some p=>
     obtain⟨j,want⟩:=p;rw[hgd]at hg;dsimp only at hg ⊢;cases hj:(ops.toList[j]?).bind (·.dst)with
      |none=>grind
      |some d=>rw[hj]at hg;dsimp only at hg;split at hg;rename_i b hd;rw[OI hs hj hd];grind;all_goals grind
  rw[Ap5 hw];left;obtain⟨v',e',c1,_,c3⟩:=ED hE o.op (AV×Eff) o.type (An st.tmps) st.heap st.frz slot (fun v e=>some (v,e)) (v,e) (b3 _ _);simp only[Apq,Ap9]at c1;obtain⟨rfl,rfl⟩:=c1;refine c3 w F m a o _ Q rfl rfl hs.heap (fun x=>EW hs.tmps x) fun u w' F' m' hgo hr => ?_;refine hk _ w' F' m' ((hs.go hgo).put hr o.dst) ?_;rw[(hput ..).1,(hput ..).2];exact hgo.1
 have hw:Region.wanted o (yielded ops a.tmps)=false:=by
  unfold DR at hg;unfold Region.wanted;cases hgd:o.guard with
   |none=>grind
   |some p=>
    obtain⟨j,want⟩:=p;rw[hgd]at hg;dsimp only at hg ⊢;cases hj:(ops.toList[j]?).bind (·.dst)with
     |none=>grind
     |some d=>rw[hj]at hg;dsimp only at hg;split at hg;rename_i b hd;rw[OI hs hj hd];grind;rename_i hd;rw[PN hs hj hd];rfl;grind
 rw[Ap4 (by simp[hw])];refine hk _ w F m (hs.put Pk o.dst) ?_;rw[(hput ..).1,(hput ..).2];exact Ext.refl ..
theorem ADF(hE:∀ g,Ak P g (E.spec g))(hL:D1 E){ops:Array Oper}{fp:Nat→List Nat}{base:Nat}{Q:Exit→Act→World→Prop}{st':St}
  (hok:∀ i y,ops.toList[i]? = some y→(∀ e∈y.after.toList,Region.binds .any e=true→e.on<i) ∧
   ∀ j x,j<i→ops.toList[j]? = some x→reach ops.toList 8 y j=true∨indep ops.toList x y (fp j) (fp i) (BC ops.toList base j) (BC ops.toList base i)=true) :
  ∀ (fuel:Nat) (listed:Array Bool) (st:St) (w:World) (F:Nat→Prop) (m:Mp) (a:Act),listed.size=ops.size→S7 ops.toList (fun i=>listed.getD i false)→(Ac ops.size listed).length≤fuel→SI w F m st a →
   HL P E ops.toList fp (BC ops.toList base) (Ac ops.size listed) st st' →
   (∀ a' w' F' m',SI w' F' m' st' a'→Ext w F m st.heap st.frz w' F' m' st'.heap st'.frz→Q .normal a' w')→wpAny P .any ops Q fuel listed a w:=by
 intro fuel
 have hdone:∀ (listed:Array Bool) (st:St) (w:World) (F:Nat→Prop) (m:Mp) (a:Act),Ac ops.size listed=[]→SI w F m st a→HL P E ops.toList fp (BC ops.toList base) (Ac ops.size listed) st st' →
   (∀ a' w' F' m',SI w' F' m' st' a'→Ext w F m st.heap st.frz w' F' m' st'.heap st'.frz→Q .normal a' w')→Q .normal a w:=by
  intro listed st w F m a h0 hs hc hq
  rw[h0]at hc
  have hc:st=st':=hc
  subst hc
  exact hq a w F m hs (Ext.refl ..)
 have hready:∀ (listed:Array Bool) (i:Nat),i∈Region.ready .any ops listed↔i∈Ac ops.size listed∧((ops[i]?).map (·.after.all fun e => !Region.binds .any e||listed.getD e.on false)).getD false=true:=by intro listed i;unfold Region.ready Ac;grind
 induction fuel with
  |zero=>intro listed st w F m a hsz hcl hl hs hc hq;have h0:Ac ops.size listed=[]:=AqN (by omega);refine⟨List.eq_nil_iff_forall_not_mem.2 fun i hi => ?_,hdone listed st w F m a h0 hs hc hq⟩;grind
  |succ fuel ih=>
   intro listed st w F m a hsz hcl hl hs hc hq;refine⟨fun hnil => ?_,fun i hi => ?_⟩;refine hdone listed st w F m a ?_ hs hc hq;cases hu:Ac ops.size listed with
    |nil=>rfl
    |cons i l=>
     exfalso;have hmem:i∈Ac ops.size listed:=by grind
     have hin:i<ops.size:=by unfold Ac at hmem;grind
     have:i∈Region.ready .any ops listed:=by
      refine(hready listed i).2 ⟨hmem,?_⟩;rw[Aq9 hin];simp only[ArK,AqK];rw[← Asg,AqE];intro e he;cases hb:Region.binds .any e with
       |false=>rfl
       |true=>
        have hlt:=(hok i ops[i] (by simp)).1 e he hb;simp only[Apx,AsE];cases hg:listed.getD e.on false with
         |true=>rfl
         |false=>
          exfalso;have hon:e.on<ops.size:=by omega
          have:e.on∈Ac ops.size listed:=by unfold Ac;grind
          rw[hu]at this;have hp:(Ac ops.size listed).Pairwise (· < ·):=AsC _ Asa
          rw[hu,Aqf]at hp;grind
     grind
   obtain⟨hmem,hrd⟩:=(hready listed i).1 hi;have hin:i<ops.size:=by grind
   obtain⟨l1,l2,hsplit⟩:=Ar3 hmem;have hgi:ops[i]? = some ops[i]:=Aq9 hin;have hgl:ops.toList[i]? = some ops[i]:=by simp
   rw[hgi]at hrd;simp only[ArK,AqK]at hrd;rw[← Asg,AqE]at hrd;rw[hsplit]at hc;obtain⟨y,s1,hy,h1,h2⟩:=Mn hL hgl l1 l2 st st' (fun j hj=>by
    have hji:=LU hsplit j hj;refine⟨hji,fun x hx => ?_⟩;rcases(hok i _ hgl).2 j x hji hx with h|h;exfalso;have hall:∀ e∈(ops[i]).after.toList,Region.binds .any e=true→(fun i=>listed.getD i false) e.on=true:=by grind
    have this:=Py hcl 8 _ j hall h;have hju:j∈Ac ops.size listed:=by grind
    unfold Ac at hju;grind;omega) hc
   rw[hgl]at hy;cases hy;have hnext:=PX hsz l1 l2 hsplit;have hlen:(Ac ops.size (listed.setIfInBounds i true)).length≤fuel:=by grind
   have hcl2:S7 ops.toList (fun k=>(listed.setIfInBounds i true).getD k false):=by
    have hset:∀ k,(listed.setIfInBounds i true).getD k false=true↔(k=i∨listed.getD k false=true):=by
     intro k;have hil:i<listed.size:=by omega
     rw[AqM,AqM,Array.getElem?_setIfInBounds];grind
    intro k z hz hk e he hb;simp only[hset]at hk ⊢;right;rcases hk with rfl|hk;grind;exact hcl k z hz hk e he hb
   exact AEt hE hgi h1 hs fun a' w' F' m' hs2 hx=>ih _ _ w' F' m' a' (by grind) hcl2 hlen hs2 (by grind) fun a' w2 F2 m2 q1 q2=>hq a' w2 F2 m2 q1 (hx.trans q2)
theorem SI.drew{w:World}{F:Nat→Prop}{m:Mp}{st:St}{a:Act}(h:SI w F m st a):SI w.drew F m st a∧Ext w F m st.heap st.frz w.drew F m st.heap st.frz:=by have hg:=Af.drew h.heap;exact⟨⟨fun t=>hg.1.rep h.heap (h.tmps t),h.size,hg.2,h.defers⟩,hg.1⟩
theorem AAE(hE:∀ g,Ak P g (E.spec g))(hL:D1 E){R:Type}{r:R}{id:Nat}{fp:List (List Nat)}{ops:Array Oper}{Q:Exit→Act→World→Prop}{k:St→Option R}{st:St}{w:World}{F:Nat→Prop}{m:Mp}{a:Act}
  (h:Ej P E R fp ops.toList st k=some r) (hs:SI w F m st a) (hq:∀ a' w',AmR r k w F m st.heap st.frz a' w'→Q .normal a' w'):(Code.region id ops true).wp P Q a w:=by
 unfold Ej at h;rw[N3]at h;split at h;rename_i hok;simp only[Apt]at hok;obtain⟨hm,hok⟩:=hok;obtain⟨hs1,he1⟩:=hs.drew;obtain⟨hs2,he2⟩:=hs1.pad (B9 ops.toList);have hnn:ops.toList=[]++ops.toList:=by simp
 obtain⟨st',hc,hk⟩:=AAG hE (all:=ops.toList) (fp:=fp) (base:=st.heap.length) ops.toList [] fp st.heap.length _ hnn rfl (by simp[BC,B9]) h;refine wp_region_any hm ?_;have hu:Ac ops.size (Array.replicate ops.size false)=List.range' 0 ops.toList.length:=by
  unfold Ac;rw[AqG,← Arn];rw[Arz];intro i hi;have:i<ops.size:=by grind
  simp[AqM,this]
 refine ADF (ops:=ops) hE hL (fp:=fun i=>fp.getD i []) (base:=st.heap.length) (st':=st') (fun i y hy=>P8 (all:=ops.toList) ops.toList [] fp _ [] hnn rfl (by simp[BC,B9]) (fun j x hj=>by grind) hok i y (AsH _) hy)
  ops.size _ _ w.drew F m a (by simp) (fun k z _ hk=>by
   exfalso
   have hk:(Array.replicate ops.size false).getD k false=true:=hk
   rw[AqM,Array.getElem?_replicate]at hk
   grind) (by grind) hs2 (by grind) fun a' w' F' m' q1 q2=>hq a' w' ⟨st',F',m',hk,q1,he1.trans (he2.trans q2)⟩
 grind
end
end Go.Pev
end
section
namespace Go.Pev
open Go.RowKit
def BN(w:World)(F:Nat→Prop)(m:Mp)(H:List Ob)(fz:List Bool)(m':Mp)(H':List Ob)(j:Nat):Bnd→Prop
 |.none=>m' j=none∧((∃ T e,H'[j]? = some (.arr T e [])∧0<e.size)∨∃ T t,H'[j]? = some (.prs T t []))
 |.whole id=>m' j=m id∧((∃ T t xs,H[id]? = some (.arr T t xs)∧H'[j]? = some (.arr T t xs)∧fz.getD id false=false) ∨
   (∃ k v es,H[id]? = some (.map k v es)∧H'[j]? = some (.map k v es)) ∨
   (∃ cs cs' b c vs T,H[id]? = some (.box cs)∧H'[j]? = some (.box cs')∧cs'.length=cs.length∧m id=some (b,c)∧w.heap[b]? = some (.cells vs T (0,0))∧AT w F m' H' cs' vs.toList∧∀ u∈vs.toList,u.oneCell'=true) ∨
   (∃ T tgt j0 is,H[id]? = some (.prs T tgt is)∧H'[j]? = some (.prs T j0 is)∧ObI w F m' H' (.prs T j0 is) (m id)) ∨
   (∃ T e t xs ver,H[id]? = some (.rows T e t xs ver none)∧H'[j]? = some (.rows T e t xs 0 none)∧(∀ k,m' (.r j k)=m (.r id k))∧fz.getD id false=false))
 |.cut id=>∃ T t xs n,H[id]? = some (.arr T t xs)∧fz.getD id false=false∧H'[j]? = some (.arr T t (List.take (α:=t.den) n xs))∧(m' j=m id∨(m' j=none∧List.take (α:=t.den) n xs=[]))
structure Inv(w:World)(F:Nat→Prop)(m:Mp)(H:List Ob)(fz:List Bool)(bs:List Bnd)(m':Mp)(E:St)(val:Nat→Value):Prop where
 tmps:∀ t,Rep w F m' E.heap (E.tmps.f t) (val t)
 lenH:E.heap.length=bs.length
 lenF:E.frz.length=E.heap.length
 frz:∀ i,E.frz.getD i false=false
 ob:∀ j b,bs[j]? = some b→BN w F m H fz m' E.heap j b
 inj:∀ (i j:Nat) (b c:Bnd) (id:Nat),bs[i]? = some b→bs[j]? = some c→b.id? = some id→c.id? = some id→i=j
def ATK(w:World)(m:Mp)(H:List Ob)(bs:List Bnd)(val:Nat→Value):Loc→Value→Prop
 |.tmp t,u=>u=val t
 |.cell j c,u=>∃ id b cc vs T cs,bs[j]? = some (.whole id)∧H[id]? = some (.box cs)∧m id=some (b,cc)∧w.heap[b]? = some (.cells vs T (0,0))∧vs.toList[c]? = some u
 |_,_=>True
theorem Aif{w:World}{F:Nat→Prop}{m:Mp}{H:List Ob}{cs:List AV}{us:List Value}{c:Nat}{v:AV}{u:Value}(h:AT w F m H cs us)(hu:us[c]? = some u)(hv:Rep w F m H v u):AT w F m H (cs.set c v) us:=by refine DL (by simp[Ap h]) fun i x y hx hy => ?_;by_cases hic:i=c;grind;rw[Aq4 (Aq2 hic)]at hx;obtain⟨y',hy',hr⟩:=CW h hx;grind
theorem AdM{w:World}{F:Nat→Prop}{m:Mp}{H:List Ob}{tm:Tm}{val:Nat→Value}(h:∀ t,Rep w F m H (tm.f t) (val t)){t:Nat}{v:AV}(hv:Rep w F m H v (val t)):∀ i,Rep w F m H ((tm.set t v).f i) (val i):=by intro i;rw[Tm.TJ];grind
theorem AJl{w:World}{F F2:Nat→Prop}{m m2:Mp}{H H2:List Ob}{T:TypeId}{j:Nat}{is:List Int}{l:Option (Nat×Nat)}(h3:∀ {cs us},AT w F m H cs us→AT w F2 m2 H2 cs us)(h:ObI w F m H (.prs T j is) l):ObI w F2 m2 H2 (.prs T j is) l:=by
 cases l with
  |none=>exact h
  |some p=>obtain⟨b,cap⟩:=p;obtain⟨vs,us,e1,e2,e3,e4,e5,e6⟩:=h;exact⟨vs,us,e1,e2,e3,e4,h3 e5,e6⟩
section
variable {w:World} {F:Nat→Prop} {m:Mp} {H:List Ob} {fz:List Bool} {bs:List Bnd} {m':Mp} {E:St} {val:Nat→Value}
theorem BN.mono{b:Bnd}{m'':Mp}{H' H'':List Ob}{j:Nat}(h:BN w F m H fz m' H' j b)(h1:H''[j]? = H'[j]?)(h2:∀ x:Ix,x.id=j→m'' x=m' x)(h3:∀ {cs us},AT w F m' H' cs us→AT w F m'' H'' cs us):BN w F m H fz m'' H'' j b:=by
 cases b with
  |none=>simp only[BN]at *;rw[h1,h2 j rfl];exact h
  |whole id=>
   simp only[BN]at *;rw[h1,h2 j rfl];obtain⟨e,h⟩:=h;refine⟨e,?_⟩;rcases h with h|h|⟨cs,cs',b,c,vs,T,a1,a2,a3,a4,a5,a6,a7⟩|⟨T,tgt,j0,is,a1,a2,a3⟩|⟨T,e',t,xs,ver,a1,a2,a3⟩
   grind;grind;grind;exact .inr (.inr (.inr (.inl ⟨T,tgt,j0,is,a1,a2,AJl h3 a3⟩)));exact .inr (.inr (.inr (.inr ⟨T,e',t,xs,ver,a1,a2,fun k=>(h2 (.r j k) rfl).trans (a3.1 k),a3.2⟩)))
  |cut id=>simp only[BN]at *;rw[h1,h2 j rfl];exact h
theorem Inv.place(h:Inv w F m H fz bs m' E val){l:Loc}{u:Value}{v:AV}(hl:ATK w m H bs val l u)(hv:Rep w F m' E.heap v u):Inv w F m H fz bs m' (Pev.place E v l) val:=by
 cases l with
  |tmp t=>have hl:u=val t:=hl;subst hl;exact⟨AdM h.tmps hv,h.lenH,h.lenF,h.frz,h.ob,h.inj⟩
  |cap t i=>exact h
  |obj j=>exact h
  |cell j c=>
   obtain⟨id,b,cc,vs,T,cs,hj,hb,hm,hw,hu⟩:=hl;have hbd:=h.ob j _ hj;simp only[BN]at hbd;obtain⟨hm',hbd⟩:=hbd;rw[hb]at hbd;rcases hbd with⟨_,_,_,hx,_⟩|⟨_,_,_,hx,_⟩|⟨cs0,cs',b0,c0,vs0,T0,hx,h1,h2,h3,h4,h5,h6⟩|⟨_,_,_,_,hx,_⟩|⟨_,_,_,_,_,hx,_⟩
   cases hx;cases hx;rotate_left;cases hx;cases hx
   ·cases hx;rw[hm]at h3;cases h3;rw[hw]at h4;cases h4;have hlt:=Aj h1;have hcomp:CQ E.heap (E.heap.set j (.box (cs'.set c v))) m' m':=by
     intro i o hi hf;by_cases hij:i=j;subst hij;rw[h1]at hi;cases hi;exact .inr ⟨by simp,_,Ax hlt,trivial,rfl,fun _ _ _=>rfl⟩
     ·rcases CQ.refl E.heap m' i o hi hf with h|⟨hd,o',h4,h5,_⟩
      all_goals grind
    have mono:∀ {a u},Rep w F m' E.heap a u→Rep w F m' (E.heap.set j (.box (cs'.set c v))) a u:=fun h=>Rep.mono (fun _ _=>rfl) (fun _ h=>h) hcomp _ h;have monoL:∀ {a u},AT w F m' E.heap a u→AT w F m' (E.heap.set j (.box (cs'.set c v))) a u:=fun h=>AT.mono (fun _ _=>rfl) (fun _ h=>h) hcomp _ h;unfold Pev.place;simp only[h1];refine⟨fun t=>mono (h.tmps t),by simp[h.lenH],by simp[h.lenF],h.frz,fun i x hi => ?_,h.inj⟩;by_cases hij:i=j;subst hij;rw[hj]at hi;cases hi;simp only[BN];exact⟨hm',.inr (.inr (.inl ⟨cs,_,b,cc,vs,T,hb,Ax hlt,by simp[h2],hm,hw,monoL (Aif h5 hu hv),h6⟩))⟩;exact(h.ob i x hi).mono (Aw hij) (fun _ _=>rfl) monoL
theorem AGC{α:Type}{l:List α}{x y:α}{j:Nat}(h:(l++[x])[j]? = some y):(j<l.length∧l[j]? = some y)∨(j=l.length∧y=x):=by grind
theorem Inv.Aom(h:Inv w F m H fz bs m' E val){b:Bnd}{o:Ob}{mn:Mp}(hmn:∀ x:Ix,x.id≠E.heap.length→mn x=m' x)(hid:∀ (i:Nat) (c:Bnd) (id:Nat),bs[i]? = some c→c.id? = some id→b.id?≠some id)
  (hbd:BN w F m H fz mn (E.heap++[o]) E.heap.length b):Inv w F m H fz (bs++[b]) mn (Dz E o) val:=by
 have hcomp:CQ E.heap (E.heap++[o]) m' mn:=by
  intro i x hi hf;have hlt:=Aj hi;rcases CQ.refl E.heap m' i x hi hf with h|⟨hd,o',h4,h5,_⟩
  grind;exact .inr ⟨hd,o',by grind,h5,hmn _ (by show i≠_;omega),fun _ _ _=>hmn _ (by show i≠_;omega)⟩
 have monoL:∀ {a u},AT w F m' E.heap a u→AT w F mn (E.heap++[o]) a u:=fun h=>AT.mono (fun _ _=>rfl) (fun _ h=>h) hcomp _ h;refine⟨fun t=>Rep.mono (fun _ _=>rfl) (fun _ h=>h) hcomp _ (h.tmps t),by simp[Dz,h.lenH],by simp[Dz,h.lenF],fun i => ?_,fun j x hj => ?_,fun i j x y id hi hj hx hy => ?_⟩;have:=h.frz i;simp only[Dz];grind;rcases AGC hj with⟨hlt,hj1⟩|⟨hj1,rfl⟩
 rw[← h.lenH]at hlt;exact(h.ob j x hj1).mono (ArA hlt) (fun y hy=>hmn y (by omega)) monoL;rw[← h.lenH]at hj1;rw[hj1];exact hbd;rcases AGC hi with⟨hlt,hi1⟩|⟨hi1,rfl⟩
 rcases AGC hj with⟨hlt',hj1⟩|⟨hj1,rfl⟩
 exact h.inj i j x y id hi1 hj1 hx hy;grind;grind
theorem Inv.add(h:Inv w F m H fz bs m' E val){b:Bnd}{o:Ob}{l:Option (Nat×Nat)}(hid:∀ (i:Nat) (c:Bnd) (id:Nat),bs[i]? = some c→c.id? = some id→b.id?≠some id)
  (hbd:BN w F m H fz (upd m' E.heap.length l) (E.heap++[o]) E.heap.length b):Inv w F m H fz (bs++[b]) (upd m' E.heap.length l) (Dz E o) val:=
 h.Aom (fun x hx=>Wf hx x rfl) hid hbd
theorem FL{id:Nat}(h:fresh? bs id=true):∀ (i:Nat) (c:Bnd),bs[i]? = some c→c.id?≠some id:=by
 intro i c hi he;unfold fresh? at h;rw[AqE]at h;have:=h c (Ap0 hi);cases c with
  |none=>simp[Bnd.id?]at he
  |whole k=>simp only[Bnd.id?,Apq]at he;grind
  |cut k=>simp only[Bnd.id?,Apq]at he;grind
theorem Inv.freeze(h:Inv w F m H fz bs m' E val){f:List Nat}(hf:f.all (fresh? bs)=true):Inv w (DF F m H f) m H (AY f fz) bs m' E val:=by
 have monoL:∀ {a u},AT w F m' E.heap a u→AT w (DF F m H f) m' E.heap a u:=fun h=>AT.mono (fun _ _=>rfl) (fun _ h=>.inl h) (CQ.refl _ _) _ h;have hfz:∀ (id i:Nat) (c:Bnd),bs[i]? = some c→c.id? = some id→fz.getD id false=false→(AY f fz).getD id false=false:=by
  intro id i c hi hc h0;rw[Av,h0];have:id∉f:=fun hid=>by rw[AqE]at hf;exact FL (hf id hid) i c hi hc
  grind
 refine⟨fun t=>Rep.mono (fun _ _=>rfl) (fun _ h=>.inl h) (CQ.refl _ _) _ (h.tmps t),h.lenH,h.lenF,h.frz,fun j b hj => ?_,h.inj⟩;have:=h.ob j b hj;cases b with
  |none=>exact this
  |whole id=>
   simp only[BN]at *;obtain⟨e,this⟩:=this;refine⟨e,?_⟩;rcases this with⟨T,t,xs,a1,a2,a3⟩|h1|⟨cs,cs',b,c,vs,T,a1,a2,a3,a4,a5,a6,a7⟩|⟨T,tgt,j0,is,a1,a2,a3⟩|⟨T,e',t,xs,ver,a1,a2,a3,a4⟩
   exact .inl ⟨T,t,xs,a1,a2,hfz id j _ hj rfl a3⟩;grind;grind;exact .inr (.inr (.inr (.inl ⟨T,tgt,j0,is,a1,a2,AJl monoL a3⟩)));exact .inr (.inr (.inr (.inr ⟨T,e',t,xs,ver,a1,a2,a3,hfz id j _ hj rfl a4⟩)))
  |cut id=>simp only[BN]at *;obtain⟨T,t,xs,n,a1,a2,a3⟩:=this;exact⟨T,t,xs,n,a1,hfz id j _ hj rfl a2,a3⟩
theorem AQF{j id off:Nat}{u:Value}(hb:BN w F m H fz m' E.heap j (.whole id))(hu:Rep w F m H (.ptr id off) u):Rep w F m' E.heap (.ptr j off) u:=by simp only[BN]at hb;obtain⟨e,hb⟩:=hb;unfold Rep at *;unfold GM at *;grind
theorem Alu{j id i sub:Nat}{u:Value}(hb:BN w F m H fz m' E.heap j (.whole id))(hu:Rep w F m H (.eptr id i sub) u):Rep w F m' E.heap (.eptr j i sub) u:=by
 simp only[BN]at hb;obtain⟨e,hb⟩:=hb;unfold Rep at *;unfold Cv at *;rcases hb with⟨T,t,xs,a1,a2,_⟩|⟨k,v,es,a1,_⟩|⟨cs,cs',b,c,vs,T,a1,a2,_,a4,_⟩|⟨_,_,_,_,a1,a2,_⟩|⟨K,_,_,_,_,a1,a2,_⟩
 grind;all_goals grind
theorem AkB{j id:Nat}{is:List Int}{us:List Value}(hb:BN w F m H fz m' E.heap j (.whole id))(hu:AT w F m H (Fv id is) us):AT w F m' E.heap (Fv j is) us:=by refine DL (by have:=Ap hu;simpa [Fv]using this) fun i c v hc hv => ?_;rw[Fv,Arj,Ap2]at hc;obtain⟨x,hx,rfl⟩:=hc;obtain⟨v',hv',hr⟩:=CW hu (i:=i) (c:=.eptr id x.toNat 0) (by rw[Fv,Arj,hx];rfl);rw[hv]at hv';cases hv';exact Alu hb hr
theorem Ao9{j id:Nat}{u:Value}(hb:BN w F m H fz m' E.heap j (.whole id))(hu:Rep w F m H (.mp id) u):Rep w F m' E.heap (.mp j) u:=by simp only[BN]at hb;obtain⟨e,hb⟩:=hb;unfold Rep at *;unfold La at *;grind
theorem Afr{j id:Nat}{u:Value}(hb:BN w F m H fz m' E.heap j (.whole id))(hu:Rep w F m H (.own id) u):Rep w F m' E.heap (.own j) u:=by simp only[BN]at hb;obtain⟨e,hb⟩:=hb;unfold Rep at *;unfold A4 at *;grind
theorem AmM{j id n:Nat}{u:Value}(hb:BN w F m H fz m' E.heap j (.whole id))(hu:Rep w F m H (.aptr id n) u):Rep w F m' E.heap (.aptr j n) u:=by simp only[BN]at hb;obtain⟨e,hb⟩:=hb;unfold Rep at *;unfold FZ at *;grind
theorem AOr{j id off n:Nat}{u:Value}(hb:BN w F m H fz m' E.heap j (.whole id))(hu:Rep w F m H (.win id off n) u):Rep w F m' E.heap (.win j off n) u:=by simp only[BN]at hb;obtain⟨e,hb⟩:=hb;unfold Rep at *;unfold HJ at *;grind
theorem Akg{id:Nat}{u:Value}{T:TypeId}{t:Ty}{ys:List t.den}(hi:HI w F m H fz)(ho:H[id]? = some (.arr T t ys))(hu:Rep w F m H (.own id) u):Rep w F m H (.win id 0 ys.length) u:=by
 unfold Rep at *;unfold A4 at hu;unfold HJ;rw[ho]at hu ⊢;simp only at hu ⊢;refine⟨by omega,?_⟩;cases hm:m id with
  |none=>rw[hm]at hu;obtain⟨a,rfl⟩:=hu;obtain⟨_,hob⟩:=hi.obj id _ ho;simp_all
  |some p=>grind
theorem ARb{α:Type}{l:List α}{i:Nat}{o:α}(h:l[i]? = some o):i<l.length:=by grind
theorem Bp(hi:HI w F m H fz){tm:Nat→Option AV}(ht:∀ t v,tm t=some v→Rep w F m H v (val t)){l:Loc}{v:AV}(h:look tm H bs l=some v):∃ u,Rep w F m H v u∧ATK w m H bs val l u:=by
 cases l with
  |tmp t=>exact⟨val t,ht t v h,rfl⟩
  |cell j c=>simp only[look]at h;split at h;rename_i id hj;split at h;rename_i cs ho;obtain⟨b,cc,vs,T,h1,h2,h3,h4⟩:=hi.obj id _ ho;obtain⟨u,hu,hr⟩:=CW h3 h;exact⟨u,hr,id,b,cc,vs,T,cs,hj,ho,h1,h2,hu⟩;grind;grind
  |cap t i=>simp only[look]at h;split at h;rename_i f cs hc;have:=ht t _ hc;unfold Rep at this;obtain⟨us,_,hr⟩:=this;obtain⟨u,_,hu⟩:=CW hr h;exact⟨u,hu,trivial⟩;rename_i f cs hc;have:=ht t _ hc;unfold Rep at this;obtain⟨us,_,hr⟩:=this;obtain⟨u,_,hu⟩:=CW hr h;exact⟨u,hu,trivial⟩;grind
  |obj j=>
   simp only[look,AmY]at h;split at h;rename_i T t xs ho;cases h;have:=hi.obj j _ ho;obtain⟨_,this⟩:=this;cases hm:m j with
    |none=>refine⟨.slice none 0 0,?_,trivial⟩;unfold Rep A4;grind
    |some p=>obtain⟨b,cap⟩:=p;refine⟨.slice (some ⟨b,0,none⟩) (List.length (α:=t.den) xs) cap,?_,trivial⟩;unfold Rep A4;grind
   rename_i cs ho;cases h;obtain⟨b,c,vs,T,h1,_⟩:=hi.obj j _ ho;refine⟨.pointer (some ⟨b,0,none⟩),?_,trivial⟩;unfold Rep GM;grind;rename_i k v es ho;cases h;obtain⟨b,c,vs,T,h1,_⟩:=hi.obj j _ ho;refine⟨.map (some b),?_,trivial⟩;unfold Rep La;grind;rename_i T t is ho;cases h;cases hm:m j with
    |none=>refine⟨.slice none 0 0,?_,trivial⟩;unfold Rep A4;grind
    |some p=>obtain⟨b,cap⟩:=p;refine⟨.slice (some ⟨b,0,none⟩) is.length cap,?_,trivial⟩;unfold Rep A4;grind
   rename_i T e t xs ver out ho;cases h;cases hm:m j with
    |none=>refine⟨.slice none 0 0,?_,trivial⟩;unfold Rep A4;grind
    |some p=>obtain⟨b,cap⟩:=p;refine⟨.slice (some ⟨b,0,none⟩) (List.length (α:=List t.den) xs) cap,?_,trivial⟩;unfold Rep A4;grind
   rename_i jk ks e t xs ver out ho;cases h;obtain⟨_,h1⟩:=hi.obj j _ ho;cases hm:m j with
    |none=>rw[hm]at h1;cases h1.1
    |some p=>obtain⟨b,cap⟩:=p;refine⟨.map (some b),?_,trivial⟩;unfold Rep La;grind
   grind
theorem ATK.app{l:Loc}{u:Value}(h:ATK w m H bs val l u)(b:Bnd):ATK w m H (bs++[b]) val l u:=by
 cases l with
  |tmp t=>exact h
  |cap t i=>trivial
  |obj j=>trivial
  |cell j c=>obtain⟨id,b1,cc,vs,T,cs,h1,h2⟩:=h;exact⟨id,b1,cc,vs,T,cs,by grind,h2⟩
theorem Al4(hb:∀ j b,bs[j]? = some b→BN w F m H fz m' E.heap j b):∀ (vs:List AV) (ps:List (Nat×Nat)) (us:List Value),Abp bs vs ps=true→AT w F m H vs us→AT w F m' E.heap (ps.map fun p=>.ptr p.1 p.2) us:=by
 intro vs;induction vs with
  |nil=>
   intro ps us h hr;cases ps with
    |nil=>unfold AT at *;exact hr
    |cons p ps=>simp[Abp]at h
  |cons v vs ih=>
   intro ps us h hr;cases ps with
    |nil=>cases v<;>simp[Abp]at h
    |cons p ps=>
     obtain⟨j,o'⟩:=p;cases v<;>simp only[Abp]at h<;>try grind
     rename_i id o;simp only[Apt]at h;obtain⟨h1,h2⟩:=h;unfold AT at hr;obtain⟨u,us',rfl,hu,hr⟩:=hr;simp only[AqL];unfold AT;refine⟨u,us',rfl,?_,ih ps us' h2 hr⟩;split at h1;rename_i id' hj;simp only[Apt,Aps]at h1;obtain⟨rfl,rfl⟩:=h1;exact AQF (hb j _ hj) hu;grind
end
end Go.Pev
end
section
namespace Go.Pev
open Go.RowKit
theorem APb(f g:List Nat):∀ fz,AY (f++g) fz=AY g (AY f fz):=by
 induction f with
  |nil=>intro fz;rfl
  |cons a f ih=>intro fz;simp only[AqJ,AY];grind
section
variable {w:World} {H:List Ob} {m:Mp} {val:Nat→Value} {tm:Nat→Option AV}
theorem CS{fz:List Bool}{id:Nat}(h:AZ fz id=true):fz.getD id false=false:=by unfold AZ at h;grind
theorem ASY:∀ (its:AD) (fz:List Bool) (bs:List Bnd) (F:Nat→Prop) (m':Mp) (E:St) (d:Au (leaves its)) (bs':List Bnd) (fr:List Nat),
  HI w F m H fz→(∀ t v,tm t=some v→Rep w F m H v (val t))→Inv w F m H fz bs m' E val→dec tm H its fz bs=some (d,bs',fr) →
  ∃ F2 m2,Af w F m H fz w F2 m H (AY fr fz)∧Inv w F2 m H (AY fr fz) bs' m2 (enc its d E) val∧∃ r,bs'=bs++r:=by
 intro its;induction its with
  |nil=>intro fz bs F m' E d bs' fr hi ht hv h;simp only[dec,Apq]at h;obtain⟨rfl,rfl,rfl⟩:=h;exact⟨F,m',Af.refl hi,hv,[],by simp⟩
  |cons p r ih=>
   intro fz bs F m' E d bs' fr hi ht hv h;obtain⟨l,c⟩:=p
   have obj:∀ (b:Bnd) (o:Ob) (lc:Option (Nat×Nat)) (ref:AV) (u:Value) (xs:Au (leaves r)) (g:List Nat),ATK w m H bs val l u→(∀ (i:Nat) (c:Bnd) (id:Nat),bs[i]? = some c→c.id? = some id→b.id?≠some id) →
     BN w F m H fz (upd m' E.heap.length lc) (E.heap++[o]) E.heap.length b→Rep w F (upd m' E.heap.length lc) (E.heap++[o]) ref u→dec tm H r fz (bs++[b])=some (xs,bs',g) →
     ∃ F2 m2,Af w F m H fz w F2 m H (AY g fz)∧Inv w F2 m H (AY g fz) bs' m2 (enc r xs (place (Dz E o) ref l)) val∧∃ r,bs'=bs++r:=by
    intro b o lc ref u xs g hat hid hbd hrep hd
    have h1:=hv.add hid hbd
    have h2:=h1.place (hat.app b) hrep
    grind
   have ref:∀ (v:AV) (u:Value) (xs:Au (leaves r)) (g:List Nat),ATK w m H bs val l u→Rep w F m' E.heap v u→dec tm H r fz bs=some (xs,bs',g) →
     ∃ F2 m2,Af w F m H fz w F2 m H (AY g fz)∧Inv w F2 m H (AY g fz) bs' m2 (enc r xs (place E v l)) val∧∃ r,bs'=bs++r:=by
    intro v u xs g hat hrep hd
    exact ih fz bs F _ _ xs bs' g hi ht (hv.place hat hrep) hd
   cases c with
    |dat t=>simp only[dec]at h;split at h;rename_i v hl;split at h;rename_i x f hx;split at h;rename_i hf;split at h;rename_i xs bs1 g hd;simp only[Apq]at h;obtain⟨rfl,rfl,rfl⟩:=h;obtain⟨u,hu,hat⟩:=Bp hi ht hl;have hdat:=AiR hi hx hu;have hg:=Af.freeze hi f;have hv1:=hv.freeze hf;have hv2:=hv1.place (v:=.data t x) hat (by unfold Rep;omega);obtain⟨F2,m2,a1,a2,rr,a3⟩:=ih (AY f fz) bs (DF F m H f) _ _ xs _ _ hg.2 (fun t v h=>hg.1.rep hi (ht t v h)) hv2 hd;rw[APb];exact⟨F2,m2,hg.trans a1,a2,rr,a3⟩;grind;grind;grind;grind
    |own T e=>
     simp only[dec]at h;split at h;rename_i e' hl;split at h;rename_i hc;simp only[Aps]at hc;have hsz:=hc;split at h;rename_i xs bs1 g hd;simp only[Apq]at h;obtain⟨rfl,rfl,rfl⟩:=h;obtain⟨u,hu,hat⟩:=Bp hi ht hl;unfold Rep at hu;refine obj .none (.arr T e []) none (.own E.heap.length) u xs _ hat (fun _ _ _ _ _=>by simp[Bnd.id?]) ?_ ?_ hd;simp only[BN];exact⟨Am ..,.inl ⟨T,e,by simp,hsz⟩⟩;unfold Rep A4;simp only[AqV (Ap1 _),ArG,Aqd,Am];grind;grind;grind;rename_i id hl;split at h;rename_i T' e' ys ho hfr;simp only[Apt]at hfr;obtain⟨hun,hfr⟩:=hfr;split at h;rename_i ys' hT hc;simp only[Aps]at hT;subst hT;obtain⟨he,hy⟩:=CU hc;subst he;simp only at hy;subst hy;split at h;rename_i xs bs1 g hd;simp only[Apq]at h;obtain⟨rfl,rfl,rfl⟩:=h;obtain⟨u,hu,hat⟩:=Bp hi ht hl;refine obj (.whole id) (.arr T e' ys) (m id) (.own E.heap.length) u xs _ hat (fun i c id' hic hcid => ?_) ?_ ?_ hd;rintro h;simp only[Bnd.id?,Apq]at h;subst h;exact FL hfr i c hic hcid;simp only[BN];exact⟨Am ..,.inl ⟨T,e',ys,ho,by simp,CS hun⟩⟩;unfold Rep at hu ⊢;rw[ho]at hu;rw[AqV (Ap1 _),ArG,Aqd,Am];exact hu;grind;grind;grind;rename_i id n hl;split at h;rename_i T' e' ys ho hfr;simp only[Apt]at hfr;obtain⟨hun,hfr⟩:=hfr;split at h;rename_i ys' hT hc;simp only[Aps]at hT;subst hT;obtain⟨he,hy⟩:=CU hc;subst he;simp only at hy;subst hy;split at h;rename_i xs bs1 g hd;simp only[Apq]at h;obtain⟨rfl,rfl,rfl⟩:=h;obtain⟨u,hu,hat⟩:=Bp hi ht hl;unfold Rep HJ at hu;rw[ho]at hu;obtain⟨hle,hu⟩:=hu;have hid:∀ (i:Nat) (c:Bnd) (id':Nat),bs[i]? = some c→c.id? = some id'→(Bnd.cut id).id?≠some id':=by intro i c id' hic hcid h;simp only[Bnd.id?,Apq]at h;subst h;exact FL hfr i c hic hcid
     have hget:(E.heap++[Ob.arr T e' (CL n ys)])[E.heap.length]? = some (Ob.arr T e' (CL n ys)):=by simp
     obtain⟨hsz,hob⟩:=hi.obj id _ ho;have hnil:n=0→List.take (α:=e'.den) n ys=[]:=by grind
     have hlen:List.length (α:=e'.den) (CL n ys)=n:=by unfold CL;grind
     cases hm:m id with
      |none=>
       rw[hm]at hob hu;simp only at hob hu;subst hob;have h0:n=0:=by grind
       subst h0;obtain⟨a,rfl⟩:=hu;refine obj (.cut id) (.arr T e' (CL 0 [])) none (.own E.heap.length) _ xs _ hat hid ?_ ?_ hd;simp only[BN];exact⟨T,e',[],0,ho,CS hun,hget,.inl (by rw[Am,hm])⟩;unfold Rep;rw[hget,Am];exact⟨a,rfl⟩
      |some p=>
       obtain⟨b,cap⟩:=p;rw[hm]at hob hu;obtain⟨a,rfl,ha⟩:=hu;obtain⟨vs,row,o1,o2,o3,o4,o5,o6⟩:=hob;by_cases hcap:cap=0;subst hcap;have h0:n=0:=by omega
       refine obj (.cut id) (.arr T e' (CL n ys)) none (.own E.heap.length) _ xs _ hat hid ?_ ?_ hd;simp only[BN];exact⟨T,e',ys,n,ho,CS hun,hget,.inr ⟨Am ..,hnil h0⟩⟩;unfold Rep;rw[hget,Am];exact⟨a,by rw[h0]⟩;refine obj (.cut id) (.arr T e' (CL n ys)) (m id) (.own E.heap.length) _ xs _ hat hid ?_ ?_ hd;simp only[BN];exact⟨T,e',ys,n,ho,CS hun,hget,.inl (Am ..)⟩;unfold Rep A4;rw[hget,Am,hm];grind
     grind;grind;grind;grind
    |box n=>simp only[dec]at h;split at h;rename_i id hl;split at h;rename_i cs ho hfr;split at h;rename_i hn;simp only[Aps]at hn;obtain⟨u,hu,hat⟩:=Bp hi ht hl;obtain⟨b,cc,vs,T,b1,b2,b3,b4⟩:=hi.obj id _ ho;refine obj (.whole id) (.box (List.replicate n .CA)) (m id) (.ptr E.heap.length 0) u d fr hat (fun i c id' hic hcid => ?_) ?_ ?_ h;rintro h;simp only[Bnd.id?,Apq]at h;subst h;exact FL hfr i c hic hcid;simp only[BN];refine⟨Am ..,.inr (.inr (.inl ⟨cs,List.replicate n .CA,b,cc,vs,T,ho,by simp,by simp[hn],b1,b2,?_,b4⟩))⟩;refine DL (by rw[Ap b3];simp[hn]) fun i c v hc _ => ?_;have:=AsQ (Ap0 hc);subst this;unfold Rep;trivial;unfold Rep GM at hu ⊢;rw[ho]at hu;rw[AqV (Ap1 _),ArG,Aqd,Am];exact hu;grind;grind;grind
    |map k v=>simp only[dec]at h;split at h;rename_i id hl;split at h;rename_i k' v' es ho hfr;split at h;rename_i es' hc;obtain⟨he,hy⟩:=CU hc;cases he;simp only at hy;subst hy;split at h;rename_i xs bs1 g hd;simp only[Apq]at h;obtain⟨rfl,rfl,rfl⟩:=h;obtain⟨u,hu,hat⟩:=Bp hi ht hl;refine obj (.whole id) (.map k v es) (m id) (.mp E.heap.length) u xs _ hat (fun i c id' hic hcid => ?_) ?_ ?_ hd;rintro h;simp only[Bnd.id?,Apq]at h;subst h;exact FL hfr i c hic hcid;simp only[BN];exact⟨Am ..,.inr (.inl ⟨k,v,es,ho,by simp⟩)⟩;unfold Rep La at hu ⊢;rw[ho]at hu;rw[AqV (Ap1 _),ArG,Aqd,Am];exact hu;grind;grind;grind;grind
    |own' j=>simp only[dec]at h;split at h;rename_i id id' hl hj;split at h;rename_i hid;simp only[Aps]at hid;subst hid;obtain⟨u,hu,hat⟩:=Bp hi ht hl;exact ref (.own j) u d fr hat (Afr (hv.ob j _ hj) hu) h;grind;grind
    |ptr' j off=>simp only[dec]at h;split at h;rename_i id o id' hl hj;split at h;rename_i hid;simp only[Apt,Aps]at hid;obtain⟨rfl,rfl⟩:=hid;obtain⟨u,hu,hat⟩:=Bp hi ht hl;exact ref (.ptr j o) u d fr hat (AQF (hv.ob j _ hj) hu) h;grind;grind
    |sub' j=>simp only[dec]at h;split at h;rename_i id off n id' hl hj;split at h;rename_i hid;simp only[Aps]at hid;subst hid;split at h;rename_i xs bs1 g hd;simp only[Apq]at h;obtain⟨rfl,rfl,rfl⟩:=h;obtain⟨u,hu,hat⟩:=Bp hi ht hl;exact ref (.win j off n) u xs _ hat (AOr (hv.ob j _ hj) hu) hd;grind;grind;grind
    |win' j=>simp only[dec]at h;split at h;rename_i id n id' hl hj;split at h;rename_i hid;simp only[Aps]at hid;subst hid;split at h;rename_i xs bs1 g hd;simp only[Apq]at h;obtain⟨rfl,rfl,rfl⟩:=h;obtain⟨u,hu,hat⟩:=Bp hi ht hl;exact ref (.win j 0 n) u xs _ hat (AOr (hv.ob j _ hj) hu) hd;grind;grind;rename_i id id' hl hj;split at h;rename_i T t ys hid ho;simp only[Aps]at hid;subst hid;split at h;rename_i xs bs1 g hd;simp only[Apq]at h;obtain⟨rfl,rfl,rfl⟩:=h;obtain⟨u,hu,hat⟩:=Bp hi ht hl;exact ref (.win j 0 ys.length) u xs _ hat (AOr (hv.ob j _ hj) (Akg hi ho hu)) hd;grind;grind;grind
    |map' j=>simp only[dec]at h;split at h;rename_i id id' hl hj;split at h;rename_i hid;simp only[Aps]at hid;subst hid;obtain⟨u,hu,hat⟩:=Bp hi ht hl;exact ref (.mp j) u d fr hat (Ao9 (hv.ob j _ hj) hu) h;grind;grind
    |clo f ps=>simp only[dec]at h;split at h;rename_i f' vs hl;split at h;rename_i hc;simp only[Apt,Aps]at hc;obtain⟨rfl,hc⟩:=hc;obtain⟨u,hu,hat⟩:=Bp hi ht hl;unfold Rep at hu;obtain⟨cs,rfl,hr⟩:=hu;exact ref (.clo f (ps.map fun p=>.ptr p.1 p.2)) _ d fr hat (by unfold Rep;exact⟨cs,rfl,Al4 hv.ob vs ps cs.toList hc hr⟩) h;grind;grind
    |bnd f j=>simp only[dec]at h;split at h;rename_i f' id id' hl hj;split at h;rename_i hc;simp only[Apt,Aps]at hc;obtain⟨rfl,rfl⟩:=hc;obtain⟨u,hu,hat⟩:=Bp hi ht hl;unfold Rep at hu;obtain⟨cs,rfl,hr⟩:=hu;refine ref (.bnd f [.own j]) _ d fr hat ?_ h;unfold Rep;refine⟨cs,rfl,?_⟩;unfold AT at hr ⊢;obtain⟨x,xs,e1,e2,e3⟩:=hr;refine⟨x,xs,e1,Afr (hv.ob j _ hj) e2,?_⟩;unfold AT at e3 ⊢;exact e3;grind;grind
    |prs T j=>
     simp only[dec]at h;split at h;rename_i e' hl;split at h;rename_i xs bs1 g hd;simp only[Apq]at h;obtain⟨rfl,rfl,rfl⟩:=h;obtain⟨u,hu,hat⟩:=Bp hi ht hl;unfold Rep at hu;refine obj .none (.prs T j []) none (.own E.heap.length) u xs _ hat (fun _ _ _ _ _=>by simp[Bnd.id?]) ?_ ?_ hd;simp only[BN];exact⟨Am ..,.inr ⟨T,j,by simp⟩⟩;unfold Rep A4;simp only[AqV (Ap1 _),ArG,Aqd,Am];grind;grind;rename_i id hl;split at h;rename_i T' tgt is tgt' ho hfr hj;split at h;rename_i hT;simp only[Apt,Aps]at hT;obtain⟨rfl,rfl⟩:=hT;split at h;rename_i xs bs1 g hd;simp only[Apq]at h;obtain⟨rfl,rfl,rfl⟩:=h;obtain⟨u,hu,hat⟩:=Bp hi ht hl;have hbj:=hv.ob j _ hj;have hob:=hi.obj id _ ho;have hcomp:CQ E.heap (E.heap++[.prs T j is]) m' (upd m' E.heap.length (m id)):=by
      intro i x hi hf;have hlt:=Aj hi;rcases CQ.refl E.heap m' i x hi hf with h|⟨hd,o',h4,h5,_⟩
      grind;exact .inr ⟨hd,o',by grind,h5,Fh (by omega),fun _ _ _=>Ed (by simp)⟩
     have hob':ObI w F (upd m' E.heap.length (m id)) (E.heap++[.prs T j is]) (.prs T j is) (m id):=by
      cases hm:m id with
       |none=>rw[hm]at hob;exact hob
       |some p=>obtain⟨b,cap⟩:=p;rw[hm]at hob hcomp;obtain⟨vs,us,e1,e2,e3,e4,e5,e6⟩:=hob;exact⟨vs,us,e1,e2,e3,e4,AT.mono (fun _ _=>rfl) (fun _ h=>h) hcomp _ (AkB hbj e5),e6⟩
     refine obj (.whole id) (.prs T j is) (m id) (.own E.heap.length) u xs _ hat (fun i c id' hic hcid => ?_) ?_ ?_ hd;rintro h;simp only[Bnd.id?,Apq]at h;subst h;exact FL hfr i c hic hcid;simp only[BN];exact⟨Am ..,.inr (.inr (.inr (.inl ⟨T,tgt,j,is,ho,by simp,hob'⟩)))⟩;unfold Rep at hu ⊢;rw[ho]at hu;rw[AqV (Ap1 _),ArG,Aqd,Am];exact hu;grind;grind;grind;grind
    |nil e=>
     simp only[dec]at h;cases hl:look tm H bs l with
      |none=>grind
      |some v=>
       rw[hl]at h;cases v with
        |nils e'=>obtain⟨u,hu,hat⟩:=Bp hi ht hl;exact ref (.nils e) u d fr hat (by unfold Rep at *;exact hu) h
        |_=>cases h
    |rows T e t=>
     simp only[dec]at h;split at h;rename_i id hl;split at h;rename_i T' e' t' ys ver ho hfr;simp only[Apt]at hfr;obtain⟨hun,hfr⟩:=hfr;split at h;rename_i ys' hT hc;simp only[Apt,Aps]at hT;obtain⟨rfl,rfl⟩:=hT;obtain⟨he,hy⟩:=CU hc;cases he;simp only at hy;subst hy;split at h;rename_i xs bs1 g hd;simp only[Apq]at h;obtain⟨rfl,rfl,rfl⟩:=h;obtain⟨u,hu,hat⟩:=Bp hi ht hl;have hrep:Rep w F (Ns m' E.heap.length (m id) fun k=>m (.r id k)) (E.heap++[.rows (.arr T) e t ys 0 none]) (.own E.heap.length) u:=by unfold Rep at hu ⊢;rw[ho]at hu;rw[AqV (Ap1 _),ArG,Aqd,KY];exact hu
     have h1:=hv.Aom (b:=.whole id) (o:=.rows (.arr T) e t ys 0 none) (mn:=Ns m' E.heap.length (m id) fun k=>m (.r id k)) (fun x hx=>HN hx)
      (fun i c id' hic hcid h=>by simp only[Bnd.id?,Apq]at h;subst h;exact FL hfr i c hic hcid)
      (by simp only[BN];exact⟨KY,.inr (.inr (.inr (.inr ⟨.arr T,e,t,ys,ver,ho,by simp,fun k=>AEa,CS hun⟩)))⟩)
     have h2:=h1.place (hat.app (.whole id)) hrep;obtain⟨F2,m2,a1,a2,rr,a3⟩:=ih fz (bs++[.whole id]) F _ _ xs _ _ hi ht h2 hd;exact⟨F2,m2,a1,a2,.whole id::rr,by grind⟩;grind;grind;grind;grind
    |mrows j e t=>
     simp only[dec]at h;split at h;rename_i id hl;split at h;rename_i j' ks e' t' ys ver ho hfr;simp only[Apt]at hfr;obtain⟨hun,hfr⟩:=hfr;split at h;rename_i ys' hT hc;simp only[Apt,Aps]at hT;obtain⟨rfl,rfl⟩:=hT;obtain⟨he,hy⟩:=CU hc;cases he;simp only at hy;subst hy;split at h;rename_i xs bs1 g hd;simp only[Apq]at h;obtain⟨rfl,rfl,rfl⟩:=h;obtain⟨u,hu,hat⟩:=Bp hi ht hl;have hrep:Rep w F (Ns m' E.heap.length (m id) fun k=>m (.r id k)) (E.heap++[.rows (.map j ks) e t ys 0 none]) (.mp E.heap.length) u:=by unfold Rep at hu ⊢;rw[ho]at hu;rw[AqV (Ap1 _),ArG,Aqd,KY];exact hu
     have h1:=hv.Aom (b:=.whole id) (o:=.rows (.map j ks) e t ys 0 none) (mn:=Ns m' E.heap.length (m id) fun k=>m (.r id k)) (fun x hx=>HN hx)
      (fun i c id' hic hcid h=>by simp only[Bnd.id?,Apq]at h;subst h;exact FL hfr i c hic hcid)
      (by simp only[BN];exact⟨KY,.inr (.inr (.inr (.inr ⟨.map j ks,e,t,ys,ver,ho,by simp,fun k=>AEa,CS hun⟩)))⟩)
     have h2:=h1.place (hat.app (.whole id)) hrep;have hzl:ks.length=List.length (α:=List t.den) ys:=by
      obtain⟨_,h4⟩:=hi.obj id _ ho;cases hm:m id with
       |none=>rw[hm]at h4;cases h4.1
       |some p=>obtain⟨b,cap⟩:=p;rw[hm]at h4;obtain⟨_,_,_,_,_,h5,_⟩:=h4;grind
     have he:enc ((l,.mrows j e t)::r) ((List.zip (β:=List t.den) ks ys,xs):Au (leaves ((l,.mrows j e t)::r))) E=enc r xs (place (Dz E (.rows (.map j ks) e t ys 0 none)) (.mp E.heap.length) l):=by simp only[enc];rw[List.map_fst_zip (Ars hzl),List.map_snd_zip (Ars hzl.symm)]
     grind;grind;grind;grind;grind
    |aptr T e n=>simp only[dec]at h;split at h;rename_i id n' hl;split at h;rename_i T' e' ys ho hfr;simp only[Apt]at hfr;obtain⟨hun,hfr⟩:=hfr;split at h;rename_i ys' hT hc;simp only[Apt,Aps]at hT;obtain⟨rfl,rfl⟩:=hT;obtain⟨he,hy⟩:=CU hc;subst he;simp only at hy;subst hy;split at h;rename_i xs bs1 g hd;simp only[Apq]at h;obtain⟨rfl,rfl,rfl⟩:=h;obtain⟨u,hu,hat⟩:=Bp hi ht hl;refine obj (.whole id) (.arr T e' ys) (m id) (.aptr E.heap.length n) u xs _ hat (fun i c id' hic hcid => ?_) ?_ ?_ hd;rintro h;simp only[Bnd.id?,Apq]at h;subst h;exact FL hfr i c hic hcid;simp only[BN];exact⟨Am ..,.inl ⟨T,e',ys,ho,by simp,CS hun⟩⟩;unfold Rep at hu ⊢;rw[ho]at hu;rw[AqV (Ap1 _),ArG,Aqd,Am];exact hu;grind;grind;grind;grind
    |bndp f j=>simp only[dec]at h;split at h;rename_i f' id id' hl hj;split at h;rename_i hc;simp only[Apt,Aps]at hc;obtain⟨rfl,rfl⟩:=hc;obtain⟨u,hu,hat⟩:=Bp hi ht hl;unfold Rep at hu;obtain⟨cs,rfl,hr⟩:=hu;refine ref (.bnd f [.ptr j 0]) _ d fr hat ?_ h;unfold Rep;refine⟨cs,rfl,?_⟩;unfold AT at hr ⊢;obtain⟨x,xs,e1,e2,e3⟩:=hr;refine⟨x,xs,e1,AQF (hv.ob j _ hj) e2,?_⟩;unfold AT at e3 ⊢;exact e3;grind;grind
    |nilp=>
     simp only[dec]at h;cases hl:look tm H bs l with
      |none=>grind
      |some v=>
       rw[hl]at h;cases v with
        |nilp=>obtain⟨u,hu,hat⟩:=Bp hi ht hl;exact ref .nilp u d fr hat (by unfold Rep at *;exact hu) h
        |_=>cases h
    |aptr' j n=>simp only[dec]at h;split at h;rename_i id n' id' hl hj;split at h;rename_i hid;simp only[Apt,Aps]at hid;obtain⟨rfl,rfl⟩:=hid;obtain⟨u,hu,hat⟩:=Bp hi ht hl;exact ref (.aptr j n) u d fr hat (AmM (hv.ob j _ hj) hu) h;grind;grind
end
end Go.Pev
end
section
namespace Go.Pev
open Go.RowKit
structure Hg(np:Nat)(w:World)(F:Nat→Prop)(m:Mp)(H:List Ob)(fz:List Bool)(w':World)(F':Nat→Prop)(m':Mp)(H':List Ob)(fz':List Bool):Prop where
 os:w'.os=w.os
 tape:w'.tape=w.tape
 output:w'.output=w.output
 size:w.heap.size≤w'.heap.size
 keep:∀ b,b<w.heap.size→(∀ i c,owned H fz i→m i≠some (b,c))→w'.heap[b]? = w.heap[b]?
 sub:∀ b,F b→F' b
 bnd:∀ b,F' b→F b∨(∃ i c,owned H fz i∧m i=some (b,c))∨w.heap.size≤b
 own:∀ i b c,owned H' fz' i→m' i=some (b,c)→(∃ i c,owned H fz i∧m i=some (b,c))∨w.heap.size≤b
 comp:∀ (i:Nat) o,i<np→H[i]? = some o→o≠.free→H'[i]? = some .dead∨(o≠.dead∧∃ o',H'[i]? = some o'∧sameShape o o'∧m' i=m i∧(BP o=false→PW o'=PW o→∀ k,m' (.r i k)=m (.r i k)))
theorem Ext.toN{w w':World}{F F':Nat→Prop}{m m':Mp}{H H':List Ob}{fz fz':List Bool}(h:Ext w F m H fz w' F' m' H' fz')(np:Nat):Hg np w F m H fz w' F' m' H' fz':=
 ⟨h.os,h.tape,h.output,h.size,h.keep,h.sub,h.bnd,h.own,fun i o _=>h.comp i o⟩
theorem Hg.refl(np:Nat)(w:World)(F:Nat→Prop)(m:Mp)(H:List Ob)(fz:List Bool):Hg np w F m H fz w F m H fz:=(Ext.refl ..).toN np
theorem Hg.trans{np:Nat}{w w1 w2:World}{F F1 F2:Nat→Prop}{m m1 m2:Mp}{H H1 H2:List Ob}{fz fz1 fz2:List Bool}
  (h:Hg np w F m H fz w1 F1 m1 H1 fz1) (k:Hg np w1 F1 m1 H1 fz1 w2 F2 m2 H2 fz2):Hg np w F m H fz w2 F2 m2 H2 fz2 where
 os:=k.os.trans h.os
 tape:=k.tape.trans h.tape
 output:=k.output.trans h.output
 size:=ArD h.size k.size
 keep b hb hn:=by rw[k.keep b (Aq1 hb h.size) ?_,h.keep b hb hn];intro i c ho he;rcases h.own i b c ho he with⟨i',c',h1,h2⟩|h1;all_goals grind
 sub b hb:=k.sub b (h.sub b hb)
 bnd b hb:=by
  rcases k.bnd b hb with h1|⟨i,c,h1,h2⟩|h1;exact h.bnd b h1;·rcases h.own i b c h1 h2 with h3|h3;all_goals grind
  exact .inr (.inr (ArD h.size h1))
 own i b c h1 h2:=by rcases k.own i b c h1 h2 with⟨i',c',h3,h4⟩|h3;exact h.own i' b c' h3 h4;exact .inr (ArD h.size h3)
 comp i o hlt ho hf:=by
  rcases h.comp i o hlt ho hf with h1|⟨hd,o',h1,h2,h3,hp⟩
  ·rcases k.comp i _ hlt h1 (by simp)with h4|⟨h5,_⟩
   all_goals grind
  have hf':o'≠.free:=by rintro rfl;cases o<;>simp[sameShape]at h2
  rcases k.comp i o' hlt h1 hf' with h4|⟨_,o'',h4,h5,h6,hq⟩
  grind;refine .inr ⟨hd,o'',h4,h2.trans h5,h6.trans h3,fun a b k => ?_⟩;have h8:=h2.ver;have h9:=h5.ver;grind
section
variable {w:World} {F:Nat→Prop} {m:Mp} {H:List Ob} {fz:List Bool} {bs:List Bnd} {m':Mp} {E:St} {val:Nat→Value}
def Ix.at:Ix→Nat→Ix
 |.o _,i=>.o i
 |.r _ k,i=>.r i k
theorem Ix.Amp(x:Ix)(i:Nat):(x.at i).id=i:=by cases x<;>rfl
theorem Inv.Apd(h:Inv w F m H fz bs m' E val){i b c:Nat}(ho:owned E.heap E.frz i)(hm:m' i=some (b,c)):∃ x id,bs[i]? = some x∧x.id? = some id∧owned H fz id∧m id=some (b,c):=by
 obtain⟨o,hio,_,_⟩:=Eu ho;have hlt:=Aj hio;rw[h.lenH]at hlt;have hx:bs[i]? = some bs[i]:=Apz hlt;have hb:=h.ob i _ hx;cases hc:bs[i]with
  |none=>rw[hc]at hb;simp only[BN]at hb;grind
  |whole id=>rw[hc]at hb hx;simp only[BN]at hb;obtain⟨e,hb⟩:=hb;refine⟨_,id,hx,rfl,?_,by grind⟩;simp only[owned,Bv];grind
  |cut id=>rw[hc]at hb hx;simp only[BN]at hb;obtain⟨T,t,xs,n,a1,a2,a3,a4⟩:=hb;refine⟨_,id,hx,rfl,by simp only[owned,Bv];grind,?_⟩;grind
theorem Inv.rowAt(h:Inv w F m H fz bs m' E val){j:Nat}{T:RK}{e:TypeId}{t:Ty}{xs:List (List t.den)}{ver:Nat}{out:Option Nat}(hj:E.heap[j]? = some (.rows T e t xs ver out)):
  ∃ id ver',bs[j]? = some (.whole id)∧H[id]? = some (.rows T e t xs ver' none)∧out=none∧m' j=m id∧(∀ k,m' (.r j k)=m (.r id k))∧fz.getD id false=false:=by
 have hlt:=Aj hj;rw[h.lenH]at hlt;have hx:bs[j]? = some bs[j]:=Apz hlt;have hb:=h.ob j _ hx;cases hc:bs[j]with
  |none=>rw[hc]at hb;simp only[BN]at hb;grind
  |whole id=>rw[hc]at hb hx;simp only[BN]at hb;grind
  |cut id=>rw[hc]at hb;simp only[BN]at hb;grind
theorem Inv.src(h:Inv w F m H fz bs m' E val){i:Ix}{b c:Nat}(ho:owned E.heap E.frz i)(hm:m' i=some (b,c)):∃ x id,bs[i.id]? = some x∧x.id? = some id∧owned H fz (i.at id)∧m (i.at id)=some (b,c):=by
 cases i with
  |o i=>exact h.Apd ho hm
  |r i k=>simp only[owned]at ho;split at ho;rename_i T e t xs ver out hj;obtain⟨id,ver',a1,a2,_,_,a5,a6⟩:=h.rowAt hj;exact⟨_,id,a1,rfl,by simp only[owned,Ix.at];grind,(a5 k).symm.trans hm⟩;grind
theorem Inv.hi(hi:HI w F m H fz)(h:Inv w F m H fz bs m' E val):HI w F m' E.heap E.frz where
 obj j o hj:=by
  have hlt:=Aj hj;rw[h.lenH]at hlt;have hx:bs[j]? = some bs[j]:=Apz hlt;have hb:=h.ob j _ hx;cases hc:bs[j]with
   |none=>rw[hc]at hb;simp only[BN]at hb;obtain⟨e1,⟨T,e,e2,e3⟩|⟨T,t,e2⟩⟩:=hb;rw[hj]at e2;cases e2;exact⟨e3,by rw[e1]⟩;rw[hj]at e2;cases e2;rw[e1];exact(rfl:([]:List Int)=[])
   |whole id=>
    rw[hc]at hb;simp only[BN]at hb;obtain⟨e,hb⟩:=hb;rcases hb with⟨T,t,xs,a1,a2,a3⟩|⟨k,v,es,a1,a2⟩|⟨cs,cs',b,c,vs,T,a1,a2,_,a4,a5,a6,a7⟩|⟨T,tgt,j0,is,a1,a2,a3⟩|⟨T,e',t,xs,ver,a1,a2,a3⟩
    rw[hj]at a2;cases a2;rw[e];exact hi.obj id _ a1;rw[hj]at a2;cases a2;rw[e];exact hi.obj id _ a1;rw[hj]at a2;cases a2;exact⟨b,c,vs,T,e.trans a4,a5,a6,a7⟩;grind;rw[hj]at a2;cases a2;rw[e];exact hi.obj id _ a1
   |cut id=>
    rw[hc]at hb;simp only[BN]at hb;obtain⟨T,t,xs,n,a1,a2,a3,a4⟩:=hb;rw[hj]at a3;cases a3;obtain⟨h0,h1⟩:=hi.obj id _ a1;refine⟨h0,?_⟩;rcases a4 with a4|⟨a4,a5⟩
    ·rw[a4];cases hm:m id with
      |none=>grind
      |some p=>obtain⟨b,cap⟩:=p;rw[hm]at h1;simp only at h1 ⊢;obtain⟨vs,row,b1,b2,b3,b4,b5,b6⟩:=h1;refine⟨vs,row.take (n*t.size),b1,?_,b3,b4,D5 (fun x cs hx=>Dat.length t hx) n b5,?_⟩;all_goals grind
    grind
 row i:=by intro T e t xs ver out hj k ys hk;obtain⟨id,ver',a1,a2,rfl,a4,a5,_⟩:=h.rowAt hj;obtain⟨h1,h2⟩:=hi.row id T e t xs ver' none a2 k ys hk;rw[a5 k];refine⟨?_,fun _ => ?_⟩;obtain⟨h0,h1⟩:=h1;exact⟨h0,h1⟩;grind
 rfz i T e t xs ver out hj hf:=by rw[h.frz i]at hf;cases hf
 sep i j b c b' c' h1 h2 hij h3 h4:=by
  obtain⟨x,id,k1,k2,k3,k4⟩:=h.src h1 h3;obtain⟨y,id',l1,l2,l3,l4⟩:=h.src h2 h4;refine hi.sep _ _ b c b' c' k3 l3 ?_ k4 l4;intro he;have hid:id=id':=by rw[← Ix.Amp i id,he,Ix.Amp]
  subst hid;have:=h.inj _ _ x y id k1 l1 k2 l2;cases i<;>cases j<;>simp only[Ix.at,Ix.id]at he this<;>(grind)<;>subst this<;>exact hij rfl
 off i b c h1 h2:=by obtain⟨x,id,k1,k2,k3,k4⟩:=h.src h1 h2;exact hi.off _ b c k3 k4
 froz i T t xs b c h1 h2:=by rw[h.frz i]at h2;cases h2
 lt:=hi.lt
 glo:=hi.glo
 len:=h.lenF.symm
theorem AJv:∀ (n i:Nat) (bs:List Bnd),pins n i bs=true→∀ k,k<n→bs[k]? = some (.whole (i+k)):=by
 intro n;induction n with
  |zero=>omega
  |succ n ih=>
   intro i bs h k hk;cases bs with
    |nil=>simp[pins]at h
    |cons b bs=>
     simp only[pins,Apt,Aps]at h;cases k with
      |zero=>grind
      |succ k=>grind
theorem Inv.blank{val:Nat→Value}(n:Nat):Inv w F m H fz [] (fun _=>none) (Pev.blank n) val where
 tmps t:=by rw[show(Pev.blank n).tmps.f t = .CA from rfl];unfold Rep;trivial
 lenH:=rfl
 lenF:=rfl
 frz i:=by simp[Pev.blank]
 ob j b h:=by simp at h
 inj i j b c id h:=by simp at h
theorem AQO(st:St)(v:AV)(l:Loc):(place st v l).tmps.n=st.tmps.n:=by
 cases l with
  |tmp t=>rfl
  |cell j c=>simp only[place];grind
  |cap t i=>rfl
  |obj j=>rfl
theorem AhS:∀ (its:AD) (d:Au (leaves its)) (st:St),(enc its d st).tmps.n=st.tmps.n:=by
 intro its;induction its with
  |nil=>intro d st;rfl
  |cons p r ih=>intro d st;obtain⟨l,c⟩:=p;cases c<;>exact(ih _ _).trans (AQO _ _ _)
theorem MV(n:Nat)(its:AD)(d:Au (leaves its)):(encode n its d).tmps.n=n:=by unfold encode;rw[AhS];simp[blank]
theorem AZP{F2:Nat→Prop}{fz2:List Bool}{np:Nat}(h:Inv w F2 m H fz2 bs m' E val)(hp:(pins np 0 bs&&(H.take np).all BP)=true):∀ (i:Nat) o,i<np→H[i]? = some o→o≠.free→E.heap[i]? = some .dead∨(o≠.dead∧∃ o',E.heap[i]? = some o'∧sameShape o o'∧m' i=m i∧(BP o=false→PW o'=PW o→∀ k,m' (.r i k)=m (.r i k))):=by
 intro i o hlt ho hf;rw[Apt]at hp;obtain⟨hp,hall⟩:=hp;have hpl:BP o=true:=AqE.1 hall o (Ap0 (i:=i) (by grind))
 suffices hs:E.heap[i]? = some .dead∨(o≠.dead∧∃ o',E.heap[i]? = some o'∧sameShape o o'∧m' i=m i)from
  hs.imp id fun ⟨a,o',b,c,d⟩=>⟨a,o',b,c,d,fun e=>by grind⟩
 have h1:=AJv np 0 bs hp i hlt;rw[Aqg]at h1;have hb:=h.ob i _ h1;simp only[BN]at hb;obtain⟨e,hb⟩:=hb;right;rcases hb with⟨T,t,xs,a1,a2,a3⟩|⟨k,v,es,a1,a2⟩|⟨cs,cs',b,c,vs,T,a1,a2,_,a4,a5,a6,a7⟩|⟨_,_,_,_,a1,a2,_⟩|⟨_,_,_,_,_,a1,a2,_⟩
 rw[ho]at a1;cases a1;exact⟨by simp,_,a2,⟨rfl,rfl⟩,e⟩;rw[ho]at a1;cases a1;exact⟨by simp,_,a2,trivial,e⟩;rw[ho]at a1;cases a1;exact⟨by simp,_,a2,trivial,e⟩;rw[ho]at a1;cases a1;exact⟨by simp,_,a2,rfl,e⟩;rw[ho]at a1;cases a1;cases hpl
theorem GF[DfI]{np nt:Nat}{st:St}{a:Act}{its:AD}{v:Au (leaves its)}(hs:SI w F m st a)(h:decode np nt st its=some v):
  ∃ F' m',SI w F' m' (encode nt its v) a∧Hg np w F m st.heap st.frz w F' m' (encode nt its v).heap (encode nt its v).frz:=by
 unfold decode at h;split at h;rename_i hn;simp only[Aps]at hn;split at h;rename_i v' bs fr hd;split at h;rename_i hp;simp only[Apq]at h;subst h
 obtain⟨F2,m2,hg,hv,_⟩:=ASY (val:=fun t=>a.tmps.getD t undef) its st.frz [] F (fun _=>none) (blank nt) v' bs fr hs.heap
  (fun t v ht=>by rw[(Tm.AmF ht).1];exact hs.tmps t) (Inv.blank nt) hd
 refine⟨F2,m2,⟨hv.tmps,by rw[MV,← hn];exact hs.size,hv.hi hg.2,hs.defers⟩,?_⟩;refine⟨rfl,rfl,rfl,Ap1 _,fun _ _ _=>rfl,hg.1.sub,hg.1.bnd,fun i b c h1 h2 => ?_,AZP hv hp⟩;obtain⟨x,id,k1,k2,k3,k4⟩:=hv.src h1 h2;exact hg.1.own _ b c k3 k4;grind;grind;grind
end
end Go.Pev
end
section
namespace Go.Pev
open Go.RowKit
theorem MP{R:Type}{all:List Oper}{g:Option (Nat×Bool)}{st:St}{yes no:St→Option R}{r:R}(h:guarded R all g st yes no=some r):
  ∃ st',(yes st'=some r∧∀ (R':Type) (yes' no':St→Option R'),guarded R' all g st yes' no'=yes' st')∨(no st'=some r∧∀ (R':Type) (yes' no':St→Option R'),guarded R' all g st yes' no'=no' st'):=by
 unfold guarded at h;split at h;exact⟨st,.inl ⟨h,fun _ _ _=>by simp[guarded]⟩⟩;rename_i j want;split at h;cases h;rename_i d hj;split at h;rename_i b hd;cases b with
  |true=>
   cases want with
    |true=>exact⟨_,.inl ⟨h,fun _ _ _=>by simp only[guarded,hj,hd]⟩⟩
    |false=>exact⟨_,.inr ⟨h,fun _ _ _=>by simp only[guarded,hj,hd]⟩⟩
  |false=>
   cases want with
    |true=>exact⟨_,.inr ⟨h,fun _ _ _=>by simp only[guarded,hj,hd]⟩⟩
    |false=>exact⟨_,.inl ⟨h,fun _ _ _=>by simp only[guarded,hj,hd]⟩⟩
 rename_i hd;exact⟨_,.inr ⟨h,fun _ _ _=>by simp only[guarded,hj,hd]⟩⟩;grind
section
variable [DfI] {P:Program} {E:Env}
theorem ABs(hE:∀ g,Ak P g (E.spec g)){R:Type}{r:R}{all:List Oper}{o:Oper}{φ:List Nat}{slot:Nat}{st:St}{k:St→Option R}(h:Pg P E R all o φ slot st k=some r):
  ∃ st',k st'=some r∧∀ (R':Type) (k':St→Option R'),Pg P E R' all o φ slot st k'=k' st':=by
 unfold Pg at h;obtain⟨st1,h1⟩:=MP h;rcases h1 with⟨h1,h2⟩|⟨h1,h2⟩
 split at h1;rename_i hw;obtain⟨v,e,h3,h4,_⟩:=ED hE o.op _ _ _ _ _ _ _ r h1;split at h3;rename_i hok;exact⟨_,h3,fun R' k'=>by unfold Pg;grind⟩;grind;grind;exact⟨_,h1,fun R' k'=>by unfold Pg;rw[h2]⟩
theorem SI.CA{w:World}{F:Nat→Prop}{m:Mp}{st:St}{a:Act}(h:SI w F m st a)(d:Option Tmp):SI w F m (st.put d .CA) a:=by
 cases d with
  |none=>exact h
  |some d=>refine⟨fun t => ?_,h.size,h.heap,h.defers⟩;simp only[St.put,Tm.TJ];split;exact(by unfold Rep;trivial:Rep w F m st.heap .CA _);exact h.tmps t
theorem ET(st:St)(d:Option Tmp)(v:AV):(st.put d v).heap=st.heap∧(st.put d v).frz=st.frz:=by cases d<;>exact⟨rfl,rfl⟩
theorem ARl:∀ (l:List Oper) (st:St),(Ff l st).heap=st.heap∧(Ff l st).frz=st.frz:=by
 intro l;induction l with
  |nil=>exact fun st=>⟨rfl,rfl⟩
  |cons o l ih=>intro st;exact⟨(ih _).1.trans (ET ..).1,(ih _).2.trans (ET ..).2⟩
theorem SI.Ff{w:World}{F:Nat→Prop}{m:Mp}{a:Act}:∀ (l:List Oper) {st:St},SI w F m st a→SI w F m (Pev.Ff l st) a:=by
 intro l;induction l with
  |nil=>exact fun h=>h
  |cons o l ih=>exact fun h=>ih (h.CA o.dst)
theorem Aj9(st:St)(d:Option Tmp)(u v:AV):(st.put d u).put d v=st.put d v:=by
 cases d with
  |none=>rfl
  |some d=>simp only[St.put,Tm.set_set]
theorem ACj:∀ (l:List Oper) (st:St) (x:Oper) (v:AV),x∈l→Pev.Ff l (st.put x.dst v)=Pev.Ff l st:=by
 intro l;induction l with
  |nil=>simp
  |cons o l ih=>intro st x v hx;simp only[Pev.Ff];by_cases he:o.dst=x.dst;rw[he,Aj9];have hc:∀ d,x.dst=some d→o.dst≠some d:=fun d h1 h2=>he (h2.trans h1.symm);rw[St.put_comm st v .CA hc];grind
def Lb(E:Env)(o:Oper)(slot:Nat)(st:St)(p:PV)(e:Eff):Prop:=
 o.guard=none∧((∃ x,o.op = .panic x∧An st.tmps x = .ifc (some p)∧e = {}) ∨
  ∃ f args ts s,o.op = .call { callee:=.value (.func f),args:=args,argTypes:=ts }∧E.pan f=some s ∧
   ∀ (R:Type) (k:AV→Eff→Option R) (kp:PV→Eff→Option R),s R (args.toList.map (An st.tmps)) st.heap st.frz slot k kp=kp p e)
theorem Y5{w:World}{F:Nat→Prop}{m:Mp}{H:List Ob}{ρ:Operand→AV}{a:Act}(hr:∀ x,Rep w F m H (ρ x) (a.eval x))(args:Array Operand):AT w F m H (args.toList.map ρ) (args.map a.eval).toList:=by rw[ArE];exact DL (by simp) fun i c v hc hv=>by grind
theorem AJj(hP:Fb P E){o:Oper}{slot:Nat}{st:St}{p:PV}{e:Eff}(h:Lb E o slot st p e){w:World}{F:Nat→Prop}{m:Mp}{a:Act}(hs:SI w F m st a){next:Act→World→Prop}{Q:Exit→Act→World→Prop}
  (hq:∀ w' F' m',Af w F m st.heap st.frz w' F' m' (CH e st.heap) (EY e st.frz)→Q (.panic [CJ p]) a w'):o.wp P a w next Q:=by
 obtain⟨_,⟨x,ho,hx,rfl⟩|⟨f,args,ts,s,ho,hf,hsp⟩⟩:=h;have hr:=EW hs.tmps x;rw[hx]at hr;unfold Rep at hr;unfold Oper.wp;have hrun:(execOp a.eval o).run P w = .halt (.panic (Jd (some p))) w:=by obtain⟨T,l⟩:=p;simp only[Jd]at hr;simp[execOp,ho,hr,Instr.panic,goPanic,Jd]
 rw[hrun];exact hq w F m (Af.refl hs.heap);obtain h1|h1:=hP f s hf (PV×Eff) (args.toList.map (An st.tmps)) st.heap st.frz slot (fun _ _=>none) (fun p e=>some (p,e)) (p,e) (hsp _ _ _);grind;obtain⟨p',e',h2,_,h3,h4⟩:=h1;simp only[Apq,Ap9]at h2;obtain⟨rfl,rfl⟩:=h2;have hcall:=h4 w F m _ hs.heap (Y5 (fun x=>EW hs.tmps x) args);rw[Arm]at hcall;unfold Oper.wp;have hrun:(execOp a.eval o).run P w = .ok (.enter f (args.map a.eval)) w:=by simp[execOp,ho,resolve,Act.eval,Deferred.ofValue,invoke,h3 _ w]
 rw[hrun];exact hcall.mono fun en w' ⟨hen,F',m',hg⟩=>by grind
theorem Gl(hP:Fb P E){R:Type}{r:R}{o:Oper}{st:St}{slot:Nat}{q:PV⊕(KM×List AV)}(h:TZ E (An st.tmps) o=some q){k:AV→Eff→Option R}{kp:PV→Eff→Option R}
  (hk:(match q with
   |.inl p=>kp p {}
   |.inr (s,args)=>s R args st.heap st.frz slot k kp)=some r) :
  (∃ p e,kp p e=some r∧Lb E o slot st p e∧∀ (R':Type) (k':AV→Eff→Option R') (kp':PV→Eff→Option R'),(match q with
   |.inl p=>kp' p {}
   |.inr (s,args)=>s R' args st.heap st.frz slot k' kp')=kp' p e) ∨
  (∃ s args v e,q = .inr (s,args)∧o.guard=none∧k v e=some r∧(∀ (R':Type) (k':AV→Eff→Option R'),evalOp P E R' o.op o.type (An st.tmps) st.heap st.frz slot k'=k' v e) ∧
   ∀ (R':Type) (k':AV→Eff→Option R') (kp':PV→Eff→Option R'),s R' args st.heap st.frz slot k' kp'=k' v e):=by
 unfold TZ at h;split at h;cases h;rename_i hg;split at h;rename_i x ho;split at h;rename_i p hx;simp only[Apq]at h;subst h;exact .inl ⟨p,{},hk,⟨hg,.inl ⟨x,ho,hx,rfl⟩⟩,fun _ _ _=>rfl⟩;grind;rename_i f args ts ho;split at h;rename_i s hf;simp only[Apq]at h;subst h;simp only at hk;rcases hP f s hf R _ _ _ _ _ _ _ hk with⟨v,e,h1,h2,h3⟩|⟨p,e,h1,h2,_,_⟩
 refine .inr ⟨s,_,v,e,rfl,hg,h1,fun R' k' => ?_,h2⟩;rw[ho];simp only[evalOp,Ji,An,Aqv];grind;exact .inl ⟨p,e,h1,⟨hg,.inr ⟨f,args,ts,s,ho,hf,h2⟩⟩,h2⟩;grind;grind
theorem AJz(hE:∀ g,Ak P g (E.spec g))(hP:Fb P E){R:Type}{r:R}{dr:Bool}{all:List Oper}:∀ (rest:List Oper) (fp:List (List Nat)) (slot:Nat) (st:St) (k:Exit→St→Option R),Bz P E R dr all rest fp slot st k=some r →
  ∃ e st',k e st'=some r∧∀ (R':Type) (k':Exit→St→Option R'),Bz P E R' dr all rest fp slot st k'=k' e st':=by
 intro rest;induction rest with
  |nil=>intro fp slot st k h;exact⟨_,_,h,fun _ _=>rfl⟩
  |cons o rest ih=>
   intro fp slot st k h;simp only[Bz]at h;cases hpo:TZ E (An st.tmps) o with
    |none=>
     rw[hpo]at h;cases dr with
      |true=>obtain⟨s1,h1,h2⟩:=ABs hE h;obtain⟨e,s2,h3,h4⟩:=ih _ _ _ _ h1;exact⟨e,s2,h3,fun R' k'=>by simp only[Bz,hpo];grind⟩
      |false=>
       obtain⟨s1,h1⟩:=MP h;rcases h1 with⟨h1,h2⟩|⟨h1,h2⟩
       obtain⟨v,e,h3,h4,_⟩:=ED hE o.op _ _ _ _ _ _ _ r h1;obtain⟨e2,s2,h5,h6⟩:=ih _ _ _ _ h3;exact⟨e2,s2,h5,fun R' k'=>by simp only[Bz,hpo];grind⟩;obtain⟨e2,s2,h5,h6⟩:=ih _ _ _ _ h1;exact⟨e2,s2,h5,fun R' k'=>by simp only[Bz,hpo];grind⟩
    |some q=>
     rw[hpo]at h;cases q with
      |inl p=>exact⟨_,_,h,fun R' k'=>by simp only[Bz,hpo]⟩
      |inr sa=>
       obtain⟨s,args⟩:=sa;simp only at h;rcases Gl hP (q:=.inr (s,args)) hpo h with⟨p,e,h1,_,h3⟩|⟨s',args',v,e,h0,_,h1,_,h3⟩
       exact⟨_,_,h1,fun R' k'=>by simp only[Bz,hpo];grind⟩;cases h0;split at h1;rename_i hc;obtain⟨e2,s2,h5,h6⟩:=ih _ _ _ _ h1;exact⟨e2,s2,h5,fun R' k'=>by simp only[Bz,hpo];grind⟩;grind
theorem KS{ops:Array Oper}{Q:Exit→Act→World→Prop}{i:Nat}{rest:List Nat}{a:Act}{w:World}{o:Oper}(ho:ops[i]? = some o)(hg:o.guard=none)(h:o.wp P a w (wpOps P ops Q rest) Q):wpOps P ops Q (i::rest) a w:=by simp only[wpOps,ho];rw[Ap5 (by simp[Region.wanted,hg])];grind
theorem AJy(hE:∀ g,Ak P g (E.spec g))(hP:Fb P E){ops:Array Oper}{Q:Exit→Act→World→Prop}{e:Exit}{st':St}:∀ (rest pre:List Oper) (fp:List (List Nat)) (slot:Nat) (st:St) (w:World) (F:Nat→Prop) (m:Mp) (a:Act),ops.toList=pre++rest →
  Bz P E (Exit×St) false ops.toList rest fp slot st (fun e s=>some (e,s))=some (e,st')→SI w F m st a →
  (∀ a' w' F' m',SI w' F' m' st' a'→Ext w F m st.heap st.frz w' F' m' st'.heap st'.frz→Q e a' w')→wpOps P ops Q (List.range' pre.length rest.length) a w:=by
 intro rest;induction rest with
  |nil=>intro pre fp slot st w F m a _ h hs hq;simp only[Bz,Apq,Ap9]at h;obtain⟨rfl,rfl⟩:=h;exact hq a w F m hs (Ext.refl ..)
  |cons o rest ih=>
   intro pre fp slot st w F m a hops h hs hq;have hget:ops[pre.length]? = some o:=by rw[← Aqo,hops];simp
   have hops':ops.toList=(pre++[o])++rest:=by grind
   have hlen:(pre++[o]).length=pre.length+1:=by simp
   rw[Apw,ArF];simp only[Bz]at h;cases hpo:TZ E (An st.tmps) o with
    |none=>
     rw[hpo]at h;simp only at h;simp only[wpOps,hget];obtain⟨s1,hs',e1,e2,hh⟩:=O8 hs h;rcases hh with⟨hw,hy⟩|⟨hw,hn⟩
     rw[Ap5 hw];left;obtain⟨v,ef,h1,_,h3⟩:=ED hE o.op _ _ _ _ _ _ _ _ hy;refine h3 w F m a o _ Q rfl rfl hs'.heap (fun x=>EW hs'.tmps x) fun u w' F' m' hg hr => ?_;have hs2:=(hs'.go hg).put hr o.dst;have:=ih (pre++[o]) _ _ _ w' F' m' (a.put o.dst u) hops' h1 hs2 fun a' w'' F2 m2 q2 q3=>hq a' w'' F2 m2 q2 (by have hx:=hg.1;rw[e1,e2]at hx;refine hx.trans ?_;have hh:=ET (s1.app ef) o.dst v;rw[hh.1,hh.2]at q3;simp only[St.app,e1,e2]at q3;exact q3)
     grind;rw[Ap4 (by simp[hw])];have hs2:SI w F m (s1.put o.dst Ba) (a.put o.dst undef):=hs'.put Pk o.dst;have:=ih (pre++[o]) _ _ _ w F m (a.put o.dst undef) hops' hn hs2 fun a' w'' F2 m2 q2 q3=>hq a' w'' F2 m2 q2 (by have hh:=ET s1 o.dst Ba;grind)
     grind
    |some q=>
     rw[hpo]at h;have stop:∀ p ef,Lb E o slot st p ef→e = .panic [CJ p]→st'=st.app ef→wpOps P ops Q (pre.length::List.range' (pre.length+1) rest.length) a w:=by intro p ef hst he hst';subst he;subst hst';refine KS hget hst.1 (AJj hP hst hs fun w' F' m' hg => ?_);exact hq a w' F' m' (hs.go hg) hg.1
     cases q with
      |inl p=>
       simp only[Apq,Ap9]at h;rcases Gl hP (R:=Unit) (r:=()) (slot:=slot) (k:=fun _ _=>none) (kp:=fun p' e'=>some ()) (q:=.inl p) hpo rfl with⟨p',ef,_,h2,h3⟩|⟨_,_,_,_,h0,_⟩
       have h4:=h3 (PV×Eff) (fun _ _=>none) fun p e=>some (p,e);simp only[Apq,Ap9]at h4;obtain⟨rfl,rfl⟩:=h4;exact stop p {} h2 h.1.symm h.2.symm;grind
      |inr sa=>
       obtain⟨s,args⟩:=sa;simp only at h;rcases Gl hP (q:=.inr (s,args)) hpo h with⟨p,ef,h1,h2,_⟩|⟨s',args',v,ef,h0,hg,h1,h2,_⟩
       simp only[Apq,Ap9]at h1;exact stop p ef h2 h1.1.symm h1.2.symm;simp only[Aqb,Bool.true_or]at h1;obtain⟨v',e',c1,_,c3⟩:=ED hE o.op (AV×Eff) o.type (An st.tmps) st.heap st.frz slot (fun v e=>some (v,e)) (v,ef) (h2 _ _);simp only[Apq,Ap9]at c1;obtain⟨rfl,rfl⟩:=c1;refine KS hget hg (c3 w F m a o _ Q rfl rfl hs.heap (fun x=>EW hs.tmps x) fun u w' F' m' hgo hr => ?_);have hs2:=(hs.go hgo).put hr o.dst;have:=ih (pre++[o]) _ _ _ w' F' m' (a.put o.dst u) hops' h1 hs2 fun a' w'' F2 m2 q2 q3=>hq a' w'' F2 m2 q2 (by refine hgo.1.trans ?_;have hh:=ET (st.app e') o.dst v';rw[hh.1,hh.2]at q3;exact q3)
       grind
theorem Aem{o:Oper}{φ:List Nat}{st:St}{slot n:Nat}{e:Eff}(hw:Aen E o φ st=true)(he:(Kg φ||Q0 (writer o.op||Li φ) φ slot n e)=true):Kg φ=true∨(Kn E st.heap (An st.tmps) o.op φ∧Q0 (writer o.op||Li φ) φ slot n e=true):=by unfold Aen at hw;simp only[Aqu,Apt]at hw;rw[Aqu]at he;rcases hw with hw|hw;grind;rcases he with he|he;grind;refine .inr ⟨?_,he⟩;rcases hw with hw|hw;exact .inl hw;exact .inr ⟨hw.2.1.1,hw.2.1.2,hw.2.2⟩
theorem Afq{o:Oper}{ρ:Operand→AV}{q:PV⊕(KM×List AV)}(h:TZ E ρ o=some q):Ta E [o]=true:=by unfold TZ at h;unfold Ta;grind
theorem AAF(hE:∀ g,Ak P g (E.spec g))(hP:Fb P E){all:List Oper}{fp:List (List Nat)}{base:Nat}{e:Exit}{st':St}:∀ (rest pre:List Oper) (fp':List (List Nat)) (slot:Nat) (st:St),
  all=pre++rest→fp'=fp.drop pre.length→slot=BC all base pre.length→Bz P E (Exit×St) true all rest fp' slot st (fun e s=>some (e,s))=some (e,st') →
  (e = .normal∧HL P E all (fun i=>fp.getD i []) (BC all base) (List.range' pre.length rest.length) st st') ∨
  ∃ n o p ef st1,all[pre.length+n]? = some o∧Ta E [o]=true∧HL P E all (fun i=>fp.getD i []) (BC all base) (List.range' pre.length n) st st1∧Lb E o (BC all base (pre.length+n)) st1 p ef∧e = .panic [CJ p]∧st'=Ff all (st1.app ef):=by
 intro rest;induction rest with
  |nil=>intro pre fp' slot st _ _ _ h;simp only[Bz,Apq,Ap9]at h;exact .inl ⟨h.1.symm,h.2⟩
  |cons o rest ih=>
   intro pre fp' slot st hall hfp hsl h;have hlen:(pre++[o]).length=pre.length+1:=by simp
   have hfp1:fp'.headD []=fp.getD pre.length []:=by simp_all
   have hfp2:fp'.tail=fp.drop (pre++[o]).length:=by simp_all
   have hs2:slot+slotsOf o.op=BC all base (pre++[o]).length:=by
    rw[hsl,hlen];unfold BC;have e1:all.take (pre.length+1)=pre++[o]:=by grind
    have e2:all.take pre.length=pre:=by grind
    rw[e1,e2,IS];simp[B9];omega
   have ho:all[pre.length]? = some o:=by grind
   have go:∀ s1,CV P E all o (fp'.headD []) slot st s1→Bz P E (Exit×St) true all rest fp'.tail (slot+slotsOf o.op) s1 (fun e s=>some (e,s))=some (e,st') →
     (e = .normal∧HL P E all (fun i=>fp.getD i []) (BC all base) (List.range' pre.length (o::rest).length) st st') ∨
     ∃ n o p ef st1,all[pre.length+n]? = some o∧Ta E [o]=true∧HL P E all (fun i=>fp.getD i []) (BC all base) (List.range' pre.length n) st st1∧Lb E o (BC all base (pre.length+n)) st1 p ef∧e = .panic [CJ p]∧st'=Ff all (st1.app ef):=by
    intro s1 h1 h2
    rw[hfp1,hsl]at h1
    rcases ih (pre++[o]) _ _ s1 (by grind) hfp2 hs2 h2 with⟨he,hc⟩|⟨n,o2,p,ef,st1,g1,g2,g3,g4,g5⟩
    ·rw[hlen]at hc
     exact .inl ⟨he,by rw[Apw,ArF];exact⟨o,s1,ho,h1,hc⟩⟩
    ·rw[hlen]at g1 g3 g4
     refine .inr ⟨n+1,o2,p,ef,st1,by grind,g2,by rw[ArF];exact⟨o,s1,ho,h1,g3⟩,by grind,g5⟩
   simp only[Bz]at h;cases hpo:TZ E (An st.tmps) o with
    |none=>rw[hpo]at h;simp only at h;obtain⟨s1,h1,h2⟩:=W3 hE h;exact go s1 h1 h2
    |some q=>
     rw[hpo]at h
     have stop:∀ p ef,Lb E o slot st p ef→e = .panic [CJ p]→st'=Ff all (st.app ef)→∃ n o p ef st1,all[pre.length+n]? = some o∧Ta E [o]=true∧HL P E all (fun i=>fp.getD i []) (BC all base) (List.range' pre.length n) st st1∧Lb E o (BC all base (pre.length+n)) st1 p ef∧e = .panic [CJ p]∧st'=Ff all (st1.app ef):=
      fun p ef h1 h2 h3=>⟨0,o,p,ef,st,ho,Afq hpo,rfl,by grind,h2,h3⟩
     cases q with
      |inl p=>
       simp only[Apq,Ap9]at h;rcases Gl hP (R:=Unit) (r:=()) (slot:=slot) (k:=fun _ _=>none) (kp:=fun p' e'=>some ()) (q:=.inl p) hpo rfl with⟨p',ef,_,h2,h3⟩|⟨_,_,_,_,h0,_⟩
       have h4:=h3 (PV×Eff) (fun _ _=>none) fun p e=>some (p,e);simp only[Apq,Ap9]at h4;obtain⟨rfl,rfl⟩:=h4;exact .inr (stop p {} h2 h.1.symm h.2.symm);grind
      |inr sa=>
       obtain⟨s,args⟩:=sa;simp only at h;rcases Gl hP (q:=.inr (s,args)) hpo h with⟨p,ef,h1,h2,_⟩|⟨s',args',v,ef,h0,hg,h1,h2,_⟩
       simp only[Apq,Ap9]at h1;exact .inr (stop p ef h2 h1.1.symm h1.2.symm);split at h1;rename_i hc;simp only[Apx,AsE,Apt]at hc;exact go _ (.inl ⟨by rw[hg];rfl,v,ef,Aem hc.1 hc.2,h2,rfl⟩) h1;grind
theorem Abz{all:List Oper}{fp:Nat→List Nat}{sl:Nat→Nat}:∀ (l l':List Nat) (st s1 s2:St),HL P E all fp sl l st s1→HL P E all fp sl l' s1 s2→HL P E all fp sl (l++l') st s2:=by
 intro l;induction l with
  |nil=>intro l' st s1 s2 h k;have h:st=s1:=h;grind
  |cons i l ih=>intro l' st s1 s2 ⟨o,s,h1,h2,h3⟩ k;exact⟨o,s,h1,h2,ih l' s s1 s2 h3 k⟩
theorem AJd{all:List Oper}{fp:Nat→List Nat}{sl:Nat→Nat}{y:Oper}:∀ (l:List Nat) (st s1:St),(∀ j∈l,∀ x,all[j]? = some x→Ct x.op=true∧apart? all x y=true)→HL P E all fp sl l st s1 →
  s1.heap=st.heap∧s1.frz=st.frz∧(∀ z∈y.op.operands,An s1.tmps z=An st.tmps z)∧∀ ef,Ff all (s1.app ef)=Ff all (st.app ef):=by
 intro l;induction l with
  |nil=>intro st s1 _ h;have h:st=s1:=h;grind
  |cons j l ih=>
   intro st s1 hl ⟨x,s,hx,h1,h2⟩;obtain⟨he,hap⟩:=hl j (by simp) x hx;obtain⟨k1,k2,k3,k4⟩:=ih s s1 (fun i hi=>hl i (by simp[hi])) h2;have key:∃ v,s=st.put x.dst v:=by
    rcases h1 with⟨_,v,e,_,b3,rfl⟩|⟨_,rfl⟩
    have:=MX he _ _ _ _ _ b3;subst this;exact⟨v,rfl⟩;grind
   obtain⟨v,rfl⟩:=key;refine⟨k1.trans (ET ..).1,k2.trans (ET ..).2,fun z hz=>(k3 z hz).trans (Br hap st v z hz),fun ef=>(k4 ef).trans ?_⟩;rw[St.He];exact ACj all _ x v (Ap0 hx)
theorem Lb.congr{y:Oper}{slot:Nat}{st s1:St}{p:PV}{ef:Eff}(h:Lb E y slot s1 p ef)(h1:s1.heap=st.heap)(h2:s1.frz=st.frz)(h3:∀ z∈y.op.operands,An s1.tmps z=An st.tmps z):Lb E y slot st p ef:=by obtain⟨hg,⟨x,ho,hx,he⟩|⟨f,args,ts,s,ho,hf,hs⟩⟩:=h;exact⟨hg,.inl ⟨x,ho,by rw[← h3 x (by rw[ho];simp[Op.operands])];exact hx,he⟩⟩;refine⟨hg,.inr ⟨f,args,ts,s,ho,hf,fun R k kp => ?_⟩⟩;have:args.toList.map (An st.tmps)=args.toList.map (An s1.tmps):=Ku fun x hx=>(h3 x (by rw[ho];simp[Op.operands,Call.operands];grind)).symm;grind
theorem AMJ(hE:∀ g,Ak P g (E.spec g))(hL:D1 E)(hP:Fb P E){ops:Array Oper}{fp:Nat→List Nat}{base:Nat}{Q:Exit→Act→World→Prop}{st':St}{p:Nat}{y:Oper}{pv:PV}{ef:Eff}(hy:ops.toList[p]? = some y)
  (hok:∀ i y,ops.toList[i]? = some y→(∀ e∈y.after.toList,Region.binds .any e=true→e.on<i) ∧
   ∀ j x,j<i→ops.toList[j]? = some x→reach ops.toList 8 y j=true∨indep ops.toList x y (fp j) (fp i) (BC ops.toList base j) (BC ops.toList base i)=true)
  (hpre:∀ j x,j<p→ops.toList[j]? = some x→reach ops.toList 8 y j=true∨Ct x.op=true)
  (hpost:∀ j x,p<j→ops.toList[j]? = some x→reach ops.toList 8 x p=true∨(x.guard=none∧∃ z,x.op = .move z)) :
  ∀ (fuel:Nat) (listed:Array Bool) (st st1:St) (w:World) (F:Nat→Prop) (m:Mp) (a:Act),listed.size=ops.size→S7 ops.toList (fun i=>listed.getD i false)→(Ac ops.size listed).length≤fuel→p∈Ac ops.size listed→SI w F m st a →
   HL P E ops.toList fp (BC ops.toList base) ((Ac ops.size listed).filter fun j=>decide (j<p)) st st1→Lb E y (BC ops.toList base p) st1 pv ef→st'=Ff ops.toList (st1.app ef) →
   (∀ a' w' F' m',SI w' F' m' st' a'→Ext w F m st.heap st.frz w' F' m' st'.heap st'.frz→Q (.panic [CJ pv]) a' w')→wpAny P .any ops Q fuel listed a w:=by
 intro fuel;have hready:∀ (listed:Array Bool) (i:Nat),i∈Region.ready .any ops listed↔i∈Ac ops.size listed∧((ops[i]?).map (·.after.all fun e => !Region.binds .any e||listed.getD e.on false)).getD false=true:=by intro listed i;unfold Region.ready Ac;grind
 induction fuel with
  |zero=>grind
  |succ fuel ih=>
   intro listed st st1 w F m a hsz hcl hl hp hs hc hst hst' hq;have unl:∀ {j:Nat},j∈Ac ops.size listed→listed.getD j false=false:=by intro j hj;unfold Ac at hj;grind
   refine⟨fun hnil => ?_,fun i hi => ?_⟩;exfalso;cases hu:Ac ops.size listed with
    |nil=>grind
    |cons i l=>
     have hmem:i∈Ac ops.size listed:=by grind
     have hin:i<ops.size:=by unfold Ac at hmem;grind
     have:i∈Region.ready .any ops listed:=by
      refine(hready listed i).2 ⟨hmem,?_⟩;rw[Aq9 hin];simp only[ArK,AqK];rw[← Asg,AqE];intro e he;cases hb:Region.binds .any e with
       |false=>rfl
       |true=>
        have hlt:=(hok i ops[i] (by simp)).1 e he hb;simp only[Apx,AsE];cases hg:listed.getD e.on false with
         |true=>rfl
         |false=>
          exfalso;have hon:e.on<ops.size:=by omega
          have:e.on∈Ac ops.size listed:=by unfold Ac;grind
          rw[hu]at this;have hpw:(Ac ops.size listed).Pairwise (· < ·):=AsC _ Asa
          rw[hu,Aqf]at hpw;grind
     grind
   obtain⟨hmem,hrd⟩:=(hready listed i).1 hi;have hin:i<ops.size:=by grind
   obtain⟨l1,l2,hsplit⟩:=Ar3 hmem;have hgi:ops[i]? = some ops[i]:=Aq9 hin;have hgl:ops.toList[i]? = some ops[i]:=by simp
   rw[hgi]at hrd;simp only[ArK,AqK]at hrd;rw[← Asg,AqE]at hrd;have hall:∀ e∈(ops[i]).after.toList,Region.binds .any e=true→(fun i=>listed.getD i false) e.on=true:=by grind
   have noreach:∀ j,j∈Ac ops.size listed→reach ops.toList 8 ops[i] j=true→False:=by intro j hj h;have h1:=Py hcl 8 _ j hall h;grind
   have hnext:=PX hsz l1 l2 hsplit;have hlen:(Ac ops.size (listed.setIfInBounds i true)).length≤fuel:=by grind
   have hcl2:S7 ops.toList (fun k=>(listed.setIfInBounds i true).getD k false):=by
    have hset:∀ k,(listed.setIfInBounds i true).getD k false=true↔(k=i∨listed.getD k false=true):=by
     intro k;have hil:i<listed.size:=by omega
     rw[AqM,AqM,Array.getElem?_setIfInBounds];by_cases hki:i=k;grind;grind
    intro k z hz hk e he hb;simp only[hset]at hk ⊢;right;rcases hk with rfl|hk;grind;exact hcl k z hz hk e he hb
   have before:∀ j∈(Ac ops.size listed).filter (fun j=>decide (j<p)),j∈Ac ops.size listed∧j<p:=by simp
   rcases Nat.lt_trichotomy i p with hip|hip|hip;-- one ahead of it
   have hub:(Ac ops.size listed).filter (fun j=>decide (j<p))=l1.filter (fun j=>decide (j<p))++i::l2.filter (fun j=>decide (j<p)):=by grind
   rw[hub]at hc;obtain⟨z,s1,hz,h1,h2⟩:=Mn hL hgl _ _ st st1 (fun j hj=>by have hj1:j∈l1:=(ArL.1 hj).1;have hji:=LU hsplit j hj1;grind) hc
   rw[hgl]at hz;cases hz;have hp2:p∈Ac ops.size (listed.setIfInBounds i true):=by grind
   exact AEt hE hgi h1 hs fun a' w' F' m' hs2 hx=>ih _ s1 st1 w' F' m' a' (by grind) hcl2 hlen hp2 hs2 (by grind) hst hst' fun a' w2 F2 m2 q1 q2=>hq a' w2 F2 m2 q1 (hx.trans q2);-- it
   subst hip;rw[hgl]at hy;cases hy;obtain⟨k1,k2,k3,k4⟩:=AJd (y:=ops[i]) _ st st1 (fun j hj x hx=>by obtain⟨hj1,hj2⟩:=before j hj;refine⟨?_,?_⟩;grind;rcases(hok i _ hgl).2 j x hj2 hx with h|h;grind;exact(MH h).1) hc
   have hst2:=hst.congr k1 k2 k3;unfold wpOp;rw[hgi];simp only;rw[Ap5 (by simp[Region.wanted,hst2.1])];left;refine AJj hP hst2 hs fun w' F' m' hg => ?_;have hj:=ARl ops.toList (st.app ef);rw[k4]at hst';subst hst';refine hq a w' F' m' ((hs.go hg).Ff _) ?_;rw[hj.1,hj.2];exact hg.1;-- a move that stands behind it
   obtain⟨hg0,z,hzo⟩:ops[i].guard=none∧∃ z,ops[i].op = .move z:=by rcases hpost i _ hip hgl with h|h;grind;omega
   have hev:∃ v,∀ (R:Type) (k:AV→Eff→Option R),evalOp P E R ops[i].op ops[i].type (An st1.tmps) st1.heap st1.frz (BC ops.toList base i) k=k v {}:=by rw[hzo];simp only[evalOp];split;exact⟨_,fun _ _=>rfl⟩;exact⟨_,fun _ _=>rfl⟩
   obtain⟨v,hv⟩:=hev;have hs1:CV P E ops.toList ops[i] (fp i) (BC ops.toList base i) st1 (st1.put ops[i].dst v):=by refine .inl ⟨by rw[hg0];rfl,v,{},.inr ⟨.inr ⟨?_,?_,?_⟩,?_⟩,hv,rfl⟩;rw[hzo];rfl;rw[hzo];rfl;rw[hzo];rfl;rfl
   have hc2:=Abz _ [i] st st1 (st1.put ops[i].dst v) hc ⟨ops[i],_,hgl,hs1,rfl⟩;obtain⟨z',s1,hz',h1,h2⟩:=Mn hL hgl _ [] st _ (fun j hj=>by grind) hc2
   rw[hgl]at hz';cases hz';rw[Aqv]at h2;have hub:(Ac ops.size (listed.setIfInBounds i true)).filter (fun j=>decide (j<p))=(Ac ops.size listed).filter (fun j=>decide (j<p)):=by grind
   have hp2:p∈Ac ops.size (listed.setIfInBounds i true):=by grind
   have hap:apart? ops.toList ops[i] y=true:=by rcases(hok i _ hgl).2 p y hip hy with h|h;grind;exact Is (MH h).1
   have hst2:Lb E y (BC ops.toList base p) (st1.put ops[i].dst v) pv ef:=hst.congr (ET ..).1.symm (ET ..).2.symm fun z hz=>(Br hap st1 v z hz).symm;have hj:st'=Ff ops.toList ((st1.put ops[i].dst v).app ef):=by rw[hst',St.He,ACj _ _ _ _ (Ap0 hgl)]
   exact AEt hE hgi h1 hs fun a' w' F' m' hs2 hx=>ih _ s1 _ w' F' m' a' (by grind) hcl2 hlen hp2 hs2 (by grind) hst2 hj fun a' w2 F2 m2 q1 q2=>hq a' w2 F2 m2 q1 (hx.trans q2)
theorem AKi{all:List Oper}{i:Nat}{o:Oper}(h:AVR E all i o=true)(hp:Ta E [o]=true):(∀ j x,j<i→all[j]? = some x→reach all 8 o j=true∨Ct x.op=true) ∧
  ∀ j x,i<j→all[j]? = some x→reach all 8 x i=true∨(x.guard=none∧∃ z,x.op = .move z):=by
 unfold AVR at h;rw[hp]at h;simp only[AqE,Aqi]at h;refine⟨fun j x hj hx => ?_,fun j x hj hx => ?_⟩;grind;have:=h j (AqZ.1 hx).1;rw[hx]at this;have h1:¬ j<i:=by omega
 have h2:¬ j=i:=by omega
 simp only[h1,h2,AqA,AsE,Aqu,Apt,Option.isNone_iff_eq_none]at this;grind
theorem AAD(hE:∀ g,Ak P g (E.spec g))(hL:D1 E)(hP:Fb P E){R:Type}{r:R}{id:Nat}{fp:List (List Nat)}{dr:Bool}{ops:Array Oper}{st:St}{k:Exit→St→Option R}(h:IQ P E R fp dr ops.toList st k=some r):
  ∃ e st',k e st'=some r∧(∀ (R':Type) (k':Exit→St→Option R'),IQ P E R' fp dr ops.toList st k'=k' e st') ∧
   ∀ (w:World) (F:Nat→Prop) (m:Mp) (a:Act) (Q:Exit→Act→World→Prop),SI w F m st a→(∀ a' w' F' m',SI w' F' m' st' a'→Ext w F m st.heap st.frz w' F' m' st'.heap st'.frz→Q e a' w')→(Code.region id ops dr).wp P Q a w:=by
 unfold IQ at h;rw[N3]at h;split at h
 ·rename_i hok;obtain⟨e,st',h1,h2⟩:=AJz hE hP _ _ _ _ _ h;refine⟨e,st',h1,fun R' k'=>by unfold IQ;rw[N3,hok];grind,fun w F m a Q hs hq => ?_⟩;have h3:=h2 (Exit×St) fun e s=>some (e,s);cases dr with
   |false=>obtain⟨hs2,he2⟩:=hs.pad (B9 ops.toList);have:=AJy hE hP ops.toList [] _ _ _ w F m a (by simp) h3 hs2 fun a' w' F' m' q1 q2=>hq a' w' F' m' q1 (he2.trans q2);rw[Ap8,AqG,← Arn]at this;exact wp_region this
   |true=>
    simp only[Apx,AsE,Apt]at hok;obtain⟨hm,hok,hpan⟩:=hok;obtain⟨hs1,he1⟩:=hs.drew;obtain⟨hs2,he2⟩:=hs1.pad (B9 ops.toList);have hnn:ops.toList=[]++ops.toList:=by simp
    refine wp_region_any hm ?_;have hu:Ac ops.size (Array.replicate ops.size false)=List.range' 0 ops.toList.length:=by
     unfold Ac;rw[AqG,← Arn];rw[Arz];intro i hi;have:i<ops.size:=by grind
     simp[AqM,this]
    have hcl:S7 ops.toList (fun i=>(Array.replicate ops.size false).getD i false):=fun k z _ hk=>by exfalso;have hk:(Array.replicate ops.size false).getD k false=true:=hk;rw[AqM,Array.getElem?_replicate]at hk;grind
    have hpairs:=fun i y hy=>P8 (all:=ops.toList) (fp:=fp) (base:=st.heap.length) ops.toList [] fp _ [] hnn rfl (by simp[BC,B9]) (fun j x hj=>by grind) hok i y (AsH _) hy;rcases AAF hE hP (all:=ops.toList) (fp:=fp) (base:=st.heap.length) ops.toList [] fp st.heap.length _ hnn rfl (by simp[BC,B9]) h3 with⟨rfl,hc⟩|⟨n,o,p,ef,st1,g1,g2,g3,g4,rfl,g6⟩
    exact ADF (ops:=ops) hE hL (fp:=fun i=>fp.getD i []) (base:=st.heap.length) (st':=st') hpairs ops.size _ _ w.drew F m a (by simp) hcl (by grind) hs2 (by grind) fun a' w' F' m' q1 q2=>hq a' w' F' m' q1 (he1.trans (he2.trans q2))
    ·simp only[Ap8,Aqg]at g1 g3 g4;have hn:n<ops.toList.length:=(AqZ.1 g1).1;have hpn:AVR E ops.toList n o=true:=by grind
     obtain⟨o1,o2⟩:=AKi hpn g2;refine AMJ hE hL hP (ops:=ops) (fp:=fun i=>fp.getD i []) (base:=st.heap.length) g1 hpairs o1 o2 ops.size _ _ st1 w.drew F m a (by simp) hcl (by grind) ?_ hs2 ?_ g4 g6 fun a' w' F' m' q1 q2=>hq a' w' F' m' q1 (he1.trans (he2.trans q2));grind
     ·have:(List.range' 0 ops.toList.length).filter (fun j=>decide (j<n))=List.range' 0 n:=by
       have h1:List.range' 0 ops.toList.length=List.range' 0 n++List.range' n (ops.toList.length-n):=by have h2:=List.range'_append_1 (s:=0) (m:=n) (n:=ops.toList.length-n);grind
       rw[h1,Ar2,Arz.2,List.filter_eq_nil_iff.2,Aqv];all_goals grind
      grind
 grind
end
end Go.Pev
end
