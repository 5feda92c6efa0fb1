/- A part of the proofs of this seat: VDKG VDKH VDU24a VDU24b VDU24c VDU24d VDU23a VDU23b VDU23c VDU23d VDU23e T24b VDU24f VDU24g VDU24h VDU24i VDU24j VDU24k VDU24l VDU24m VDU24n PlnD VDU21a VDU21b VDU23f VDU23g PlnE VDU23h VDU23i VDU21c VDU21d VDU21e VDU23j VDU23k VDU24e VDU21f VDU23l VU29a VU29b VU29c VU29d VU29e VU29g VU29h VU29i VU29j VU29k TS27a TS27b U28a U28b U28c U28d U28e G28P25 G28P26 G28P. -/
import Derived.Test.YtbnaceonlbiheaaGreatDoorPb618bceeb8
import Derived.KernelRfl
import Derived.IntWalk
import Derived.Test.YtbnaceonlbiheaaGreatDoorProg
set_option linter.unusedVariables false
set_option linter.unusedSimpArgs false
set_option linter.unusedSectionVars false
set_option maxRecDepth 100000
section
section
namespace Go.Pev.Pl
open Tok
theorem Z9(N:Nat)(hN:N≤64)(l:List Int)(hl:l.length<1073741824)(h0:∀ t∈l,0≤t)(d1:List (List Int))(d3 d5:Int)(d8:List Int)(d9:Int)(d10:Bool)(d11:Int)(d12:List Int)(d13 d14:Bool)(d15 d16:List Int)(d17:List (List Int))(d18:List Int)(d19:List (List Int))(d20 d21:Bool)(d22:List Int)(d23 d24:Int)(d25:Bool):
  ∀ (m k cnt:Nat) (met:List Bool) (seen:List Int),k+m=l.length→MB N met seen→(l.drop k).Nodup→seen.length+m<4611686018427387904→m<cnt →
  ((∀ t∈l.drop k,t<(N:Int)→t∉seen)∧∃ met',AU Eh cnt ((N:Int),d1,met,d3,(seen.length:Int),d5,l,(k:Int),d8,d9,d10,d11,d12,d13,d14,d15,d16,d17,d18,d19,d20,d21,d22,d23,d24,d25,()) =
    some (.inr (.inl ((N:Int),d1,met',d3,((seen++(l.drop k).filter (fun t=>decide (t<(N:Int)))).length:Int),d5,d8,d9,d10,d11,d12,d13,d14,d15,d16,d17,d18,d19,d20,d21,d22,d23,d24,d25,())))∧MB N met' (seen++(l.drop k).filter (fun t=>decide (t<(N:Int))))) ∨
  (¬ (∀ t∈l.drop k,t<(N:Int)→t∉seen)∧AU Eh cnt ((N:Int),d1,met,d3,(seen.length:Int),d5,l,(k:Int),d8,d9,d10,d11,d12,d13,d14,d15,d16,d17,d18,d19,d20,d21,d22,d23,d24,d25,())=some (.inl (false,()))):=by
 intro m;induction m with
  |zero=>
   intro k cnt met seen hk hm hn hsl hc;obtain⟨cnt,rfl⟩:∃ c,cnt=c+1:=⟨cnt-1,by omega⟩
   have e:l.drop k=[]:=Aqq (by omega);rw[e];refine .inl ⟨by simp,met,?_,by simpa using hm⟩;rw[AU,Eh,AK,AN,Apo (by omega)];simp
  |succ m ih=>
   intro k cnt met seen hk hm hn hsl hc;obtain⟨cnt,rfl⟩:∃ c,cnt=c+1:=⟨cnt-1,by omega⟩
   have hk':k<l.length:=by omega
   have e:l.drop k=l.getD k 0::l.drop (k+1):=by rw[AqX hk',Apu,Apz hk',AqK]
   have hpos:0≤l.getD k 0:=h0 _ (by rw[Apu,Apz hk',AqK];exact Aq5 hk');rw[AU,Eh,AK,AN,Apr hk'];simp only[EV (0:Int) hk'];rw[e]at hn ⊢;generalize l.getD k 0=t at *;rw[AqO]at hn;rw[AO (show k+1<9223372036854775808 by omega),Ab];by_cases ht:t<(N:Int);rw[Apr ht];obtain⟨q,rfl⟩:=Ap7 hpos;have hq:q<met.length:=by rw[hm.1];omega
   have hmq:=hm.2 q (by omega);simp only[EV false hq,LL,AGN,hmq];by_cases hs:(q:Int)∈seen;rw[Apr hs];exact .inr ⟨fun h=>h (q:Int) (by simp) ht hs,rfl⟩;rw[Apo hs];simp only[];have hm':MB N (met.set q true) (seen++[(q:Int)]):=by
    refine⟨by simp[hm.1],fun y hy => ?_⟩;by_cases e2:y=q;subst e2;simp[Apu,hq];have h3:=hm.2 y hy;have e3:¬ (y:Int)=(q:Int):=by omega
    rw[Apu,Aq4 (Aq2 e2),← Apu,h3];simp[e3]
   have hlen:(((seen.length:Nat):Int))=((seen.length:Nat):Int):=rfl;have hw:IntKind.wrap .i64 ((seen.length:Int)+1)=((seen++[(q:Int)]).length:Int):=by rw[Ad (by omega)];simp
   rw[hw];have hiff:(∀ y∈(q:Int)::l.drop (k+1),y<(N:Int)→y∉seen)↔∀ y∈l.drop (k+1),y<(N:Int)→y∉seen++[(q:Int)]:=by constructor;intro h y hy hyn hm2;simp only[Ap6,AqR]at hm2;rcases hm2 with h2|rfl;exact h y (AqD _ hy) hyn h2;exact hn.1 hy;intro h y hy hyn hm2;rcases Apv.1 hy with rfl|hy;exact hs hm2;exact h y hy hyn (by simp[hm2])
   rcases ih (k+1) cnt _ _ (by omega) hm' hn.2 (by simp;omega) (by omega)with⟨q1,met',q2,q3⟩|⟨q1,q2⟩
   refine .inl ⟨hiff.2 q1,met',?_,?_⟩;rw[AsX (by simpa using ht)];rw[q2,ArV];rfl;rw[AsX (by simpa using ht)];simpa using q3;exact .inr ⟨fun h=>q1 (hiff.1 h),q2⟩;rw[Apo ht];simp only[];have hiff:(∀ y∈t::l.drop (k+1),y<(N:Int)→y∉seen)↔∀ y∈l.drop (k+1),y<(N:Int)→y∉seen:=by constructor;intro h y hy;exact h y (AqD _ hy);intro h y hy hyn;rcases Apv.1 hy with rfl|hy;exact absurd hyn ht;exact h y hy hyn
   rcases ih (k+1) cnt _ _ (by omega) hm hn.2 (by omega) (by omega)with⟨q1,met',q2,q3⟩|⟨q1,q2⟩
   refine .inl ⟨hiff.2 q1,met',?_,?_⟩;rw[AsY (by simpa using ht)];exact q2;rw[AsY (by simpa using ht)];exact q3;exact .inr ⟨fun h=>q1 (hiff.1 h),q2⟩
theorem UR(N:Nat)(hN1:1≤N)(hN:N≤64)(rings:List (List Int))(hlen:rings.length≤64)(hr:∀ l∈rings,l.length<9223372036854775808∧∀ x∈l, -9223372036854775808≤x∧x≤9223372036854775807):
  ∀ (ls:List (List Int)) (i cnt:Nat) (met:List Bool) (last:Int) (seen:List Int),rings.drop i=ls→i≤rings.length→MB N met seen→seen.length≤i*1073741824→ls.length<cnt →
  (okR (N:Int) seen last ls∧∃ met' seen',AU Ei cnt ((N:Int),rings,met,last,(seen.length:Int),(i:Int),())=some (.inr (.inl ((N:Int),rings,(seen'.length:Int),())))∧MB N met' seen'∧seen'=seen++ls.flatten.filter (fun t=>decide (t<(N:Int)))) ∨
  (¬ okR (N:Int) seen last ls∧AU Ei cnt ((N:Int),rings,met,last,(seen.length:Int),(i:Int),())=some (.inl (false,()))):=by
 have hmany:4294967296<many:=by simp only[many];omega
 intro ls;induction ls with
  |nil=>
   intro i cnt met last seen hd hi hm hsl hc;obtain⟨cnt,rfl⟩:∃ c,cnt=c+1:=⟨cnt-1,by simp at hc;omega⟩
   have:rings.length≤i:=by simpa using hd
   refine .inl ⟨trivial,met,seen,?_,hm,by simp⟩;rw[AU,Ei,AK,AN,Apo (by omega)]
  |cons l ls ih=>
   intro i cnt met last seen hd hi hm hsl hc;simp only[Apw]at hc;obtain⟨cnt,rfl⟩:∃ c,cnt=c+1:=⟨cnt-1,by omega⟩
   have hi':i<rings.length:=by refine Aql fun h => ?_;rw[Aqq (by omega)]at hd;cases hd
   rw[AqX hi']at hd;simp only[AqF]at hd;obtain⟨hd1,hd2⟩:=hd;have hx:rings[i]? = some l:=by rw[Apz hi',hd1]
   have hmem:l∈rings:=Ap0 hx;obtain⟨hl,hlr⟩:=hr l hmem;rw[AU,Ei,AK,AN,Apr hi',okR];simp only[Aa hx,I4];by_cases c2:Rt l;rw[Apr c2];have hl:l.length<1073741824:=by have:=c2.1;omega
   simp only[Apx];cases l with
    |nil=>rw[AK,As,Apr (by simp)];exact .inr ⟨fun h=>h.1.2.1 rfl,rfl⟩
    |cons x tl=>
     rw[AK,As,Apo (by simp only[Apw];omega)];simp only[AO6 (N:Int) (x::tl) hl hlr c2.2.2];by_cases c4:TI (N:Int) (x::tl);rw[Apr c4];simp only[Apx,TO];rw[Tf _ _ (by simp) (by intro y hy;simp only[AqR]at hy;subst hy;obtain⟨a,b,q1,q2⟩:=IL c2 (by simp);have:=Aqx List.length q1;rw[q2];simp only[Apw,Ap3]at this hl ⊢;omega)]
     have hps:=AQL c2 (by simp);have hps2:([plain (x::tl)]=[x::tl])↔Gm (x::tl)=x:=by simpa using hps
     by_cases c3:Gm (x::tl)=x;rw[Apr (hps2.2 c3)];have i0:idx (x::tl) (0:Int)=some x:=by rw[Gr];rfl
     simp only[Apx,i0,AsO,Ao];by_cases c1:x≤last;rw[Apr c1];exact .inr ⟨fun h=>by omega,rfl⟩;rw[Apo c1];simp only[At];have hRG:RG (N:Int) (x::tl):=⟨c2,by simp,c3,c4⟩
     rcases Z9 N hN (x::tl) hl (fun t ht=>(c2.2.1 t ht).1) rings x (i:Int) (x::tl) ((x::tl).length:Int) false (N:Int) (x::tl) true false (x::tl) (plain (x::tl)) [plain (x::tl)] (x::tl) [x::tl] true false (x::tl) x last false (x::tl).length 0 many met seen (by omega) hm (by rw[ArY];exact c2.2.2) (by omega) (by omega)with⟨q1,met',q2,q3⟩|⟨q1,q2⟩
     rw[ArY]at q1 q3 q2;have q2':AU Eh many ((N:Int),rings,met,x,(seen.length:Int),(i:Int),x::tl,(0:Int),x::tl,((x::tl).length:Int),false,(N:Int),x::tl,true,false,x::tl,plain (x::tl),[plain (x::tl)],x::tl,[x::tl],true,false,x::tl,x,last,false,())=_:=q2;simp only[q2',AO (show i+1<9223372036854775808 by omega)];have hfl:((x::tl).filter (fun t=>decide (t<(N:Int)))).length≤(x::tl).length:=List.length_filter_le _ _;rcases ih (i+1) cnt met' x (seen++(x::tl).filter (fun t=>decide (t<(N:Int)))) hd2 (by omega) q3 (by rw[Ap3];omega) (by omega)with⟨p1,met2,seen2,p2,p3,p4⟩|⟨p1,p2⟩
     refine .inl ⟨⟨hRG,by omega,q1,p1⟩,met2,seen2,p2,p3,?_⟩;rw[p4,Aqy,Ar2,ArV];exact .inr ⟨fun h=>p1 h.2.2.2,p2⟩;rw[ArY]at q1;have q2':AU Eh many ((N:Int),rings,met,x,(seen.length:Int),(i:Int),x::tl,(0:Int),x::tl,((x::tl).length:Int),false,(N:Int),x::tl,true,false,x::tl,plain (x::tl),[plain (x::tl)],x::tl,[x::tl],true,false,x::tl,x,last,false,())=_:=q2;simp only[q2'];exact .inr ⟨fun h=>q1 h.2.2.1,by trivial⟩;rw[Apo (fun h=>c3 (hps2.1 h))];exact .inr ⟨fun h=>c3 h.1.2.2.1,rfl⟩;rw[Apo c4];exact .inr ⟨fun h=>c4 h.1.2.2.2,rfl⟩
   rw[Apo c2];exact .inr ⟨fun h=>c2 h.1.1,rfl⟩
theorem Gk(n:Int)(rings:List (List Int))(hlen:rings.length<1073741824)(hr:∀ l∈rings,l.length<9223372036854775808∧∀ x∈l, -9223372036854775808≤x∧x≤9223372036854775807):
  Pv ((n,(rings,())),())=some (decide (RF n rings),()):=by
 have hmany:4294967296<many:=by simp only[many];omega
 rw[XQ,R1];simp only[Ab,AK];by_cases h1:n<1;rw[Apr h1,Apo (show ¬ RF n rings from fun h=>by have:=h.1.1;omega)];rw[Apo h1];simp only[];by_cases h2:64<n;rw[Apr h2,Apo (show ¬ RF n rings from fun h=>by have:=h.1.2;omega)];rw[Apo h2];simp only[];by_cases h3:n<(rings.length:Int);rw[Apr h3,Apo (show ¬ RF n rings from fun h=>by have:=AVP (by omega) h.2.1 (by omega) (by omega);omega)]
 rw[Apo h3];obtain⟨N,rfl⟩:=Ap7 (show 0≤n by omega);have f1:Bq (N:Int)=true:=(Hy _).2 (by omega);have f2:ile (N:Int) (N:Int)=true:=by rw[Ao];simp
 simp only[f1,f2,Aqr,Bool.and_true,At];have hMB:MB N (Cb (AF (N:Int)) false) []:=by refine⟨by simp[Cb,MZ],fun k hk => ?_⟩;simp[Cb,MZ,hk]
 rcases UR N (by omega) (by omega) rings (by omega) hr rings 0 many _ (-1) [] (by simp) (by omega) hMB (by simp) (by omega)with⟨p1,met,seen,p2,p3,p4⟩|⟨p1,p2⟩
 have p2':AU Ei many ((N:Int),rings,Cb (AF (N:Int)) false, -1,(0:Int),(0:Int),())=_:=p2;simp only[p2',As];obtain⟨q1,q2⟩:=AZt p1 (by simp);rw[← p4]at q1;have hsub:∀ x∈seen,x∈(List.range N).map (fun(k:Nat)=>(k:Int)):=by intro x hx;rw[p4]at hx;simp only[AqI,ArL,List.mem_flatten,Aps]at hx;obtain⟨⟨l,hl,hxl⟩,hxn⟩:=hx;have:=((q2 l hl).1.2.1 x hxl).1;rw[AqU];exact⟨x.toNat,by rw[Aqi];omega,by omega⟩
 have hv:∀ v,v∈seen↔(v<(N:Int)∧v∈rings.flatten):=fun v=>by rw[p4,AqI,ArL,Aps,and_comm]
 have hS:Sz (N:Int):=⟨by omega,by omega⟩
 by_cases hc:(seen.length:Int)=(N:Int)
 rw[Apr hc,Apr];refine⟨hS,p1,fun v v1 v2 => ?_⟩;have:=P9 q1 hsub (by simp;omega) v (by rw[AqU];exact⟨v.toNat,by rw[Aqi];omega,by omega⟩);exact((hv v).1 this).2;rw[Apo hc,Apo];rintro⟨_,_,h⟩;have a1:=DX q1 hsub;have hrn:((List.range N).map (fun(k:Nat)=>(k:Int))).Nodup:=by rw[List.Nodup,ArW];exact List.nodup_range.imp fun h e=>h (by omega)
 have a2:=DX (a:=(List.range N).map (fun(k:Nat)=>(k:Int))) (b:=seen) hrn fun x hx=>by rw[AqU]at hx;obtain⟨k,hk,rfl⟩:=hx;rw[Aqi]at hk;exact(hv _).2 ⟨by omega,h (k:Int) (by omega) (by omega)⟩
 simp only[Aqk,AqH]at a1 a2;omega;have p2':AU Ei many ((N:Int),rings,Cb (AF (N:Int)) false, -1,(0:Int),(0:Int),())=_:=p2;simp only[p2'];rw[Apo (fun h=>p1 h.2.1)]
end Go.Pev.Pl
end
section
namespace Go.Pev.Pl
open Tok
theorem TP(n:Int)(rings:List (List Int))(v:Int)(hlen:rings.length<1073741824)(hr:∀ l∈rings,l.length<9223372036854775808):Kl ((n,(rings,())),v,())=some (plc rings v,()):=by
 rw[XY,R6]
 have e:=N6 (step:=IN) (fun i=>(v,n,rings,(i:Int),())) rings (fun l=>decide (v∈l)) (fun i=>.inl ((i:Int),())) (.inr (.inl ())) (by omega)
  (fun i l hi hx=>by
   have hl:=hr l (Ap0 hx)
   rw[IN,AK,AN,Apr hi]
   simp only[Aa hx,L3 l v (by omega)]
   rw[AO (by omega),Ao]
   by_cases h:v∈l
   ·obtain⟨k,e,_⟩:=AFP h
    rw[e,Apr (by omega),Apr h];rfl
   ·rw[Pz h,Apo (by omega),Apo h];rfl)
  (by rw[IN,AK,AN,Apo (by omega)])
 have e':AL IN many (v,n,rings,(0:Int),())=_:=e;simp only[e',plc];cases rings.any (fun l=>decide (v∈l))<;>rfl
end Go.Pev.Pl
end
section
namespace Go.Pev.Pl
open Tok
theorem AY8(rest:List (List Int))(r:List Int)(hlen:rest.length<1073741824)(hne:∀ l∈rest,l≠[])(hp:plain r≠[]):AJi (rest,r,())=some (XU rest (plain r),()):=by
 rw[AJh,AFN];simp only[TO];generalize plain r=p at *
 have e:=N6 (step:=L0) (fun i=>(rest,p,(i:Int),())) rest (fun x => !decide (hd x<hd p)) (fun i=>.inl (rest,p,(i:Int),())) (.inl (rest,p,(rest.length:Int),())) (by omega)
  (fun i x hi hx=>by
   rw[L0,AK,AN,Apr hi]
   simp only[Aa hx,AVo (hne x (Ap0 hx)),AVo hp,Ahc,Ab]
   rw[AO (by omega)]
   by_cases h:hd x<hd p
   ·rw[Apr h];rfl
   ·rw[Apo h];rfl)
  (by rw[L0,AK,AN,Apo (by omega)])
 have e':AL L0 many (rest,p,(0:Int),())=_:=e;have hk:(if rest.any (fun x => !decide (hd x<hd p))then(.inl (rest,p,((rest.findIdx fun x => !decide (hd x<hd p):Nat):Int),()):(List (List Int)×List Int×Int×Unit)⊕Unit)else .inl (rest,p,(rest.length:Int),())) = .inl (rest,p,((rest.findIdx fun x => !decide (hd x<hd p):Nat):Int),()):=by split;rfl;rename_i h;rw[List.findIdx_eq_length.2 fun x hx=>by refine Aql fun hc=>h (Arw.2 ⟨x,hx,by simpa using hc⟩)]
 rw[e',hk];have hle:(rest.findIdx fun x => !decide (hd x<hd p))≤rest.length:=List.findIdx_le_length;rw[XU];generalize (rest.findIdx fun x => !decide (hd x<hd p))=k at *;simp only[OO hle,IE hle];rw[A7 (by simp only[AK,Ap8,Aqn];omega)];simp only[];rw[A7 (by simp only[AK,DG,Ap3,Apw,Ap8,Aqn];omega)];simp only[];rw[A7 (by simp only[AK,DG,Ap3,Apw,Ap8,Aqn,Aq3];omega)];simp only[DG,AqI,ArV,ArS]
theorem Nz(l:List (List Int))(i:Nat)(hi:i<l.length)(hlen:l.length<1073741824):Fg (l,(i:Int),())=some (l.eraseIdx i,()):=by rw[PT,Lh];rw[AO (by omega)];simp only[OO (ArC hi),IE (show i+1≤l.length by omega)];rw[A7 (by simp only[AK,Ap8,Aqn];omega)];simp only[];rw[A7 (by simp only[AK,DG,Ap3,Ap8,Aqn,Aq3];omega)];simp only[DG,AqI,List.eraseIdx_eq_take_drop_succ]
end Go.Pev.Pl
end
section
namespace Go.Pev.Pl
open Tok
end Go.Pev.Pl
end
section
namespace Go.Pev.Pl
open Go.RowKit Tok
end Go.Pev.Pl
end
section
namespace Go.Pev.Pl
open Tok
end Go.Pev.Pl
end
section
namespace Go.Pev.Pl
open Tok
theorem AKu{n:Int}{rings:List (List Int)}{u v:Int}(h:FR n rings)(iu:In n u)(iv:In n v)(hp:plc rings u=plc rings v):
  N0 ((n,(rings,())),u,v,())=some (n,rings,5,())∧Oh ((n,(rings,())),u,v,())=some (n,rings,5,()):=by have hD:=h.dom;have hRF:=Mq.2 h;constructor;rw[IC,I3];simp only[H4 n rings u v hD,hRF,iu,iv,and_self,AqP,As,Ka n rings _ hD.1 (fun l hl=>(hD.2 l hl).1),hp,Apy,Apx];rw[J2,J3];simp only[Gk n rings hD.1 hD.2,hRF,J6,iu,iv,Apy,Apx,TP n rings _ hD.1 (fun l hl=>(hD.2 l hl).1),As,hp]
theorem AgA{n:Int}{rings:List (List Int)}{u v:Int}{i j:Nat}{A B:List Int}(h:FR n rings)(iu:In n u)(iv:In n v)(hi:rings[i]? = some A)(hj:rings[j]? = some B)(hu:u∈A)(hv:v∈B)(hij:i≠j):
  ∃ zs rest,N0 ((n,(rings,())),u,v,())=some (n,zs,0,())∧Oh ((n,(rings,())),u,v,())=some (n,zs,0,())∧FR n zs∧rings.Perm (A::B::rest)∧zs.Perm (plain (BA n A B u v)::rest)∧Dis n A B:=by
 have hD:=h.dom;have hRF:=Mq.2 h;have rA:=h.rg A (Ap0 hi);have rB:=h.rg B (Ap0 hj);have hil:=(AqZ.1 hi).1;have hjl:=(AqZ.1 hj).1;have pu:plc rings u=(i:Int):=h.AFR hi iu.2.2.2 hu;have pv:plc rings v=(j:Int):=h.AFR hj iv.2.2.2 hv;have hperm:rings.Perm (A::B::(rings.eraseIdx (max i j)).eraseIdx (min i j)):=by rcases AsS hij with g|g;rw[Ash (by omega),Aqw (by omega)];exact JS g hi hj;rw[Nat.max_eq_left (by omega),Asi (by omega)];exact(JS g hj hi).trans (List.Perm.swap _ _ _)
 have hdis:Dis n A B:=by have:=KD hperm h.dis;rw[Aqf]at this;exact this.1 B (by simp)
 obtain⟨l1,l2,l3,huv,ho⟩:=NV rA.2.2.2 rB.2.2.2 hu hv iu iv hdis;obtain⟨hRG,hrot⟩:=Y9 l1;have hall:BA n A B u v=u::EM n u v::(A2 B v++EM n v u::(A2 A u).tail):=rfl;have lA:(A2 A u).length≤1000:=by rw[← (Co hu).perm.length_eq];exact rA.1.1
 have lB:(A2 B v).length≤1000:=by rw[← (Co hv).perm.length_eq];exact rB.1.1
 have hsub:((rings.eraseIdx (max i j)).eraseIdx (min i j)).Sublist rings:=(AsA _ _).trans (AsA _ _);have hw1:Fg (rings,((max i j:Nat):Int),())=some (rings.eraseIdx (max i j),()):=Nz _ _ (by omega) hD.1;have hel:(rings.eraseIdx (max i j)).length=rings.length-1:=by rw[List.length_eraseIdx];rw[Ap5 (by omega)]
 have hw2:Fg (rings.eraseIdx (max i j),((min i j:Nat):Int),())=some ((rings.eraseIdx (max i j)).eraseIdx (min i j),()):=Nz _ _ (by omega) (by have:=hD.1;omega);have hdrop:C2 (fun k=>decide ((k:Int)∈[(i:Int),(j:Int)])) 0 rings=(rings.eraseIdx (max i j)).eraseIdx (min i j):=by rcases AsS hij with g|g;rw[Ash (by omega),Aqw (by omega)];exact LK _ i j g rings 0 (by omega) fun k _=>Ary.2 (by simp only[Apv,ArO,AsD];omega);rw[Nat.max_eq_left (by omega),Asi (by omega)];exact LK _ j i g rings 0 (by omega) fun k _=>Ary.2 (by simp only[Apv,ArO,AsD];omega)
 have hrl:((rings.eraseIdx (max i j)).eraseIdx (min i j)).length≤rings.length:=hsub.length_le;generalize (rings.eraseIdx (max i j)).eraseIdx (min i j)=rest at *;have hupr:rest.Pairwise (fun a b=>hd a<hd b):=h.up.sublist hsub;have hner:∀ l∈rest,l≠[]:=fun l hl=>(h.rg l (hsub.subset hl)).2.1;have hdd:=KD hperm h.dis;rw[Aqf,Aqf]at hdd;have hheads:∀ x∈rest,hd x≠hd (plain (BA n A B u v)):=by intro x hx e;have g1:=Np hRG;have g2:=(l3 _ g1.2.2.2).1 (hrot.perm.mem_iff.2 (Sb hRG.2.1));have g3:hd (plain (BA n A B u v))∈x:=e▸Sb (hner x hx);rcases g2 with g|g;exact hdd.1 x (by simp[hx]) _ g g1.2.2.2 g3;exact hdd.2.1 x hx _ g g1.2.2.2 g3
 have hup:=AUp hupr hheads;have hpz:=ACC rest (plain (BA n A B u v));refine⟨XU rest (plain (BA n A B u v)),rest,?_,?_,AWb h hperm hRG (fun t ht=>by rw[← hrot.perm.mem_iff];exact l3 t ht) hpz hup,hperm,hpz,hdis⟩;obtain⟨ys,y1,y2,y3⟩:=ABY n rings [(i:Int),(j:Int)] [BA n A B u v] hD.1 (by simp) (by simp) (fun l hl=>(h.rg l hl).2.1) (by simp;exact hRG.2.1);have hys:ys=XU rest (plain (BA n A B u v)):=by refine TF hup (y2.trans ?_) y3;rw[hdrop];exact(Arh (l₁:=rest) (l₂:=[plain (BA n A B u v)])).trans hpz.symm
 rw[hys]at y1;rw[IC,I3];have s1:CE (A2 A u) (0:Int) (1:Int)=some [u]:=by have:=AEs (xs:=A2 A u) (l:=0) (h:=1) (by omega) (by rw[l2];simp);rw[l2]at this ⊢;exact this
 have s2:CE (A2 A u) (1:Int) (AH (A2 A u))=some (A2 A u).tail:=by have:=IE (xs:=A2 A u) (l:=1) (by rw[l2];simp);rw[ArN]at this;exact this
 have d1:Eo 0 (AF (AH [u])) (A2 A u)=[u]:=by rw[l2];rfl
 have d2:Eo 1 (AF (AH (A2 A u).tail)) (A2 A u)=(A2 A u).tail:=by rw[Eo,AK,MZ,ArN,ArZ]
 have hcat:Hc ([[u],[EM n u v],A2 B v,[EM n v u],(A2 A u).tail],())=some (BA n A B u v,()):=by rw[Mh _ (by simp) (by simp;omega)];simp[BA]
 have ne:((i:Int))≠(j:Int):=by omega
 simp only[H4 n rings u v hD,hRF,iu,iv,and_self,AqP,As,Ka n rings _ hD.1 (fun l hl=>(hD.2 l hl).1),pu,pv,ne,Apy,AqA,Apx,Aa hi,Aa hj,ACA,JN,rA.1,rB.1,hu,hv,s1,s2,AIs,d1,d2,hcat,y1];rw[J2,J3];have s2:CE (A2 A u) (1:Int) (AH (A2 A u))=some (A2 A u).tail:=by have:=IE (xs:=A2 A u) (l:=1) (by rw[l2];simp);rw[ArN]at this;exact this
 have d2:Eo 1 (AF (AH (A2 A u).tail)) (A2 A u)=(A2 A u).tail:=by rw[Eo,AK,MZ,ArN,ArZ]
 have ne:((i:Int))≠(j:Int):=by omega
 have f1:fits (AH [u,EM n u v]+AH (A2 B v))=true:=A7 (by simp only[AK,Apw,Ap8];omega);have f2:fits (AH (Ai [u,EM n u v] (A2 B v))+AH [EM n v u])=true:=A7 (by simp only[AK,DG,Ap3,Apw,Ap8];omega);have f3:fits (AH (Ai (Ai [u,EM n u v] (A2 B v)) [EM n v u])+AH (A2 A u).tail)=true:=A7 (by simp only[AK,DG,Ap3,Apw,Ap8,List.length_tail];omega);have hcat:Ai (Ai (Ai [u,EM n u v] (A2 B v)) [EM n v u]) (A2 A u).tail=BA n A B u v:=by simp[DG,BA]
 have hput:AJi (rest,BA n A B u v,())=some (XU rest (plain (BA n A B u v)),()):=AY8 rest _ (by have:=hD.1;omega) hner hRG.2.1;simp only[Gk n rings hD.1 hD.2,hRF,J6,iu,iv,Apy,Apx,TP n rings _ hD.1 (fun l hl=>(hD.2 l hl).1),pu,pv,As,ne,AqA,Aa hi,Aa hj,O9 A u (by have:=rA.1.1;omega),O9 B v (by have:=rB.1.1;omega),JN,rA.1,rB.1,hu,hv,and_self,AqP,ADK,f1,f2,s2,d2,f3,Agc,Agb,hw1,hw2,hcat,hput]
theorem AAO{n:Int}{rings:List (List Int)}{u v:Int}(hD:Dom rings)(h:¬ (RF n rings∧In n u∧In n v)):
  ∃ e,e≠0∧(∃ b,e=b∧(b=1∨b=10))∧N0 ((n,(rings,())),u,v,())=some (n,rings,e,())∧Oh ((n,(rings,())),u,v,())=some (n,rings,e,()):=by by_cases h1:RF n rings;have h2:¬ (In n u∧In n v):=fun h2=>h ⟨h1,h2⟩;refine⟨10,by omega,⟨10,rfl,.inr rfl⟩,?_,?_⟩;rw[IC,I3];simp only[H4 n rings u v hD,h1,h2,AqP,AqB,As];rfl;rw[J2,J3];simp only[Gk n rings hD.1 hD.2,h1,J6,Apy,Apx];by_cases hu:In n u;have hv:¬ In n v:=fun hv=>h2 ⟨hu,hv⟩;simp[hu,hv];simp[hu];refine⟨1,by omega,⟨1,rfl,.inl rfl⟩,?_,?_⟩;rw[IC,I3];simp only[H4 n rings u v hD,h1,AqB,As];rfl;rw[J2,J3];simp only[Gk n rings hD.1 hD.2,h1,AqA,Aqb]
theorem ATF{n:Int}{rings:List (List Int)}(u v:Int)(hD:Dom rings):∃ zs e,N0 ((n,(rings,())),u,v,())=some (n,zs,e,())∧Oh ((n,(rings,())),u,v,())=some (n,zs,e,())∧Dom zs:=by by_cases h:RF n rings∧In n u∧In n v;obtain⟨h1,iu,iv⟩:=h;have hF:=Mq.1 h1;obtain⟨i,A,pu,hi,hu,_⟩:=OU (hF.cov u iu);obtain⟨j,B,pv,hj,hv,_⟩:=OU (hF.cov v iv);by_cases hij:i=j;obtain⟨q1,q2⟩:=AKu hF iu iv (by rw[pu,pv,hij]);exact⟨_,_,q1,q2,hD⟩;obtain⟨zs,rest,q1,q2,q3,_⟩:=AgA hF iu iv hi hj hu hv hij;exact⟨_,_,q1,q2,q3.dom⟩;obtain⟨e,_,_,q1,q2⟩:=AAO hD h;exact⟨_,_,q1,q2,hD⟩
end Go.Pev.Pl
end
section
namespace Go.Pev.Pl
open Tok
end Go.Pev.Pl
end
section
namespace Go.Pev.Pl
open Tok
instance (n v:Int):Decidable (In n v):=inferInstanceAs (Decidable (_∧_))
instance (n:Int):Decidable (Sz n):=inferInstanceAs (Decidable (_∧_))
end Go.Pev.Pl
end
section
namespace Go.Pev.Pl
instance (xs:List Int):Decidable (Rt xs):=inferInstanceAs (Decidable (_∧_∧_))
end Go.Pev.Pl
end
section
namespace Go.Pev.Pl
open Tok
noncomputable instance (n:Int) (xs:List Int):Decidable (TI n xs):=Classical.propDecidable _
end Go.Pev.Pl
end
section
namespace Go.Pev.Pl
open Tok
noncomputable instance (n:Int) (rings:List (List Int)):Decidable (RF n rings):=Classical.propDecidable _
noncomputable instance (n:Int) (xs:List Int):Decidable (RG n xs):=Classical.propDecidable _
end Go.Pev.Pl
end
section
namespace Go.Pev.Pl
open Tok
theorem AIr(n:Int)(rings:List (List Int))(l:List (Int×Int×Unit))(hD:Dom rings)(hs:l.length<9223372036854775808):Vx ((n,(rings,())),l,())=some (AMX n rings (l.all fun e=>decide (In n e.1)&&decide (In n e.2.1)),()):=by
 rw[Wz,Rp];simp only[Gk n rings hD.1 hD.2,AMX];by_cases h:RF n rings;simp only[h,Apy,Apx,AqP]
 have e:=N6 (step:=ID) (fun i=>(l,n,rings,(i:Int),())) l (fun e => !(decide (In n e.1)&&decide (In n e.2.1))) (fun _=>.inl ((10:Int),())) (.inr (.inl ())) hs
  (fun i x hi hx=>by
   rw[ID,AK,AN,Apr hi]
   simp only[Aa hx,Ab,Ao]
   rw[AO (by omega)]
   have q1:=ATL (v:=x.1) h.1
   have q2:=ATL (v:=x.2.1) h.1
   by_cases c1:x.1<0
   ·rw[Apr c1,Bool.true_or]at q1
    have:decide (In n x.1)=false:=by simpa using q1.symm
    simp[c1,this]
   ·by_cases c2:n≤x.1
    ·rw[Apr c2,Bool.or_true]at q1
     have:decide (In n x.1)=false:=by simpa using q1.symm
     simp[c1,c2,this]
    ·rw[Apo c1,Apo c2]at q1
     have g1:decide (In n x.1)=true:=by simpa using q1.symm
     by_cases c3:x.2.1<0
     ·rw[Apr c3,Bool.true_or]at q2
      have:decide (In n x.2.1)=false:=by simpa using q2.symm
      simp[c1,c2,c3,this]
     ·by_cases c4:n≤x.2.1
      ·rw[Apr c4,Bool.or_true]at q2
       have:decide (In n x.2.1)=false:=by simpa using q2.symm
       simp[c1,c2,c3,c4,this]
      ·rw[Apo c3,Apo c4]at q2
       have g2:decide (In n x.2.1)=true:=by simpa using q2.symm
       simp[c1,c2,c3,c4,g1,g2])
  (by rw[ID,AK,AN,Apo (by omega)])
 have e':AL ID many (l,n,rings,(0:Int),())=_:=e;rw[e',List.any_eq_not_all_not];simp only[Bool.not_not];cases l.all fun e=>decide (In n e.1)&&decide (In n e.2.1)<;>rfl;simp[h]
end Go.Pev.Pl
end
section
namespace Go.Pev.Pl
open Tok
end Go.Pev.Pl
end
section
namespace Go.Pev.Pl
open Tok
end Go.Pev.Pl
end
section
namespace Go.Pev.Pl
open Tok
end Go.Pev.Pl
end
section
namespace Go.Pev.Pl
open Tok
theorem AJX{N:Nat}(h1:1≤N)(hN:N≤64){ts:List Tie}(hs:ts.length≤400)(ho:oks N ts){out:List Int}(hc:AIK (N:Int) (trs ts ts.length) out):
  HQ (((N:Int),(ts,())),())=some (decide ((cnt out N:Int)=(N:Int)-(trs ts ts.length).length),()):=by
 have R:=Pu N hN ts hs;rw[Ap5 ho]at R;have hin:=AO2 hN ho;have hlen:=AEh ts ts.length;obtain⟨o2,e2,c2⟩:=Ga (N:Int) (trs ts ts.length) ⟨by omega,by omega⟩ (by omega) hin;have:=AIK.unique h1 hN hc c2;subst this;have hol:out.length=N:=by have:=hc.len;omega
 rw[Fm,Fp];simp only[Ab,AK];rw[Apo (show ¬ (N:Int)<1 by omega),Apo (show ¬ 64<(N:Int) by omega),Apo (show ¬ 400<(ts.length:Int) by omega)];simp only[R,e2,N1 N hN _ _ out hol,As];rw[Ad (by omega)]
end Go.Pev.Pl
end
section
namespace Go.Pev.Pl
open Tok
end Go.Pev.Pl
end
section
namespace Go.Pev.Pl
open Tok
def Aov(x:Edge)(b:Bool):Tie:=(x.1,x.2.1,0,b,())
def Apl(ts:List Tie)(xs:List Edge)(bs:List Bool)(k:Nat):List Tie:=(List.range k).foldl (fun a i=>Aph a (Aov (xs.getD i (0,0,())) (bs.getD i false))) ts
end Go.Pev.Pl
end
section
namespace Go.Pev.Pl
open Tok
end Go.Pev.Pl
end
section
namespace Go.Pev.Pl
open Tok
end Go.Pev.Pl
end
section
namespace Go.Pev.Pl
open Tok
end Go.Pev.Pl
end
section
namespace Go.Pev.Pl
open Tok
end Go.Pev.Pl
end
end
section
section
namespace Go.Pev.Pl
open Tok
end Go.Pev.Pl
end
section
namespace Go.Pev.Pl
open Tok
theorem Amj{N:Nat}(h1:1≤N)(hN:N≤64){a:Int}(h:0≤a∧a<(N:Int)):In (N:Int) a:=⟨by omega,by omega,h.1,h.2⟩
theorem Aht{N:Nat}(h1:1≤N)(hN:N≤64){l:List Edge}{out:List Int}(hc:AIK (N:Int) l out):cnt out N=cc N l:=by
 unfold cnt cc;rw[List.countP_eq_length_filter];congr 1;refine List.filter_congr fun k hk => ?_;have hk:k<N:=by simpa using hk
 have ik:=Amj h1 hN (a:=(k:Int)) ⟨by omega,by omega⟩;have hg:out.getD k 0=cl out (k:Int):=by unfold cl;rw[AqW]
 rw[hg,AsL,Arc,Af7];constructor;intro h j hj hcn;have:=hc.least (k:Int) (j:Int) ik (Amj h1 hN ⟨by omega,by omega⟩) hcn.symm;omega;intro h;have a1:=hc.isin _ ik;have a2:=hc.con _ ik;have a3:=hc.least (k:Int) (k:Int) ik ik (.refl _);obtain⟨m,hm⟩:=Ap7 a1.2.2.1;rw[hm]at a2 a3 ⊢;by_cases hlt:m<k;exact absurd a2.symm (h m hlt);omega
theorem FC.count{N:Nat}(h1:1≤N)(hN:N≤64){rings:List (List Int)}{l:List Edge}(h:FC (N:Int) rings l)(hs:l.length<1073741824)(ha:∀ e∈l,In (N:Int) e.1∧In (N:Int) e.2.1):rings.length=cc N l:=by obtain⟨o,_,c⟩:=Ga (N:Int) l ⟨by omega,by omega⟩ hs ha;rw[TN h c,Aht h1 hN c]
theorem AJW{N:Nat}(h1:1≤N)(hN:N≤64){ts:List Tie}(hs:ts.length≤400)(ho:oks N ts):HQ (((N:Int),(ts,())),())=some (true,())↔Fo N (trs ts ts.length):=by
 have hlen:=AEh ts ts.length;obtain⟨o,_,c⟩:=Ga (N:Int) (trs ts ts.length) ⟨by omega,by omega⟩ (by omega) (AO2 hN ho);rw[AJX h1 hN hs ho c,Aht h1 hN c];unfold Fo;constructor;intro h;have:decide ((cc N (trs ts ts.length):Int)=(N:Int)-(trs ts ts.length).length)=true:=by injection h with h;injection h
 have:=Ar6 this;omega;intro h;rw[Apr (by omega)]
end Go.Pev.Pl
end
section
namespace Go.Pev.Pl
open Tok
end Go.Pev.Pl
end
section
namespace Go.Pev.Pl.SE
open Go.Sort
def ok(_:Int×Int×Unit):Prop:=True
def okz:Int×Int×Unit:=(0,0,())
theorem Xt:ok okz:=trivial
def lt(x y:Int×Int×Unit):Bool:=decide (x.1<y.1∨(x.1=y.1∧x.2.1<y.2.1))
theorem swo:SWO lt:=⟨fun x=>by simp[lt],fun x y z h1 h2=>by simp only[lt,Aps]at *;omega,fun x y z h1 h2=>by simp only[lt,Aqc]at *;omega⟩
end Go.Pev.Pl.SE
end
section
namespace Go.Pev.Pl.ST
open Go.Sort
def ok(_:Int×Int×Int×Bool×Unit):Prop:=True
def okz:Int×Int×Int×Bool×Unit:=(0,0,0,false,())
theorem Xt:ok okz:=trivial
def lt(x y:Int×Int×Int×Bool×Unit):Bool:=decide (x.1<y.1∨(x.1=y.1∧x.2.1<y.2.1))
theorem swo:SWO lt:=⟨fun x=>by simp[lt],fun x y z h1 h2=>by simp only[lt,Aps]at *;omega,fun x y z h1 h2=>by simp only[lt,Aqc]at *;omega⟩
end Go.Pev.Pl.ST
end
section
namespace Go.Pev.Pl
open Tok
section
variable {α β:Type} [DecidableEq α]
end
end Go.Pev.Pl
end
section
namespace Go.Pev.Pl
open Tok
noncomputable def grown(N:Nat)(ts:List Tie)(l:List Edge):List Tie:=Apl ts (Ahr N ts l) (gfl (trs ts ts.length) (Ahr N ts l)) (Ahr N ts l).length
structure RG2(N:Nat)(ts:List Tie):Prop where
 h1:1≤N
 hN:N≤64
 ht:ts.length≤400
 oks:oks N ts
 fo:Fo N (trs ts ts.length)
theorem RG2.r21{N:Nat}{ts:List Tie}(h:RG2 N ts):HQ (((N:Int),(ts,())),())=some (true,()):=(AJW h.h1 h.hN h.ht h.oks).2 h.fo
theorem RG2.lr{N:Nat}{ts:List Tie}(h:RG2 N ts):Ek (((N:Int),(ts,())),())=some (true,()):=by obtain⟨b,h1,h2,_⟩:=Y1 (N:Int) ts (by have:=h.ht;omega);rw[h.r21]at h1;cases h1;exact h2
theorem AY0(n:Int)(ts:List Tie)(hl:ts.length<4611686018427387904):(HQ ((n,(ts,())),())=some (false,())∧Ek ((n,(ts,())),())=some (false,()))∨∃ N:Nat,n=(N:Int)∧RG2 N ts:=by obtain⟨b,h1,h2,h3⟩:=Y1 n ts hl;cases b;exact .inl ⟨h1,h2⟩;obtain⟨N,rfl,q1,q2,q3,q4⟩:=h3 rfl;exact .inr ⟨N,rfl,q1,q2,q3,q4,(AJW q1 q2 q3 q4).1 h1⟩
theorem RG2.inE{N:Nat}{ts:List Tie}(h:RG2 N ts):∀ e∈ts.map ed,In (N:Int) e.1∧In (N:Int) e.2.1:=AoS h.hN h.oks
end Go.Pev.Pl
end
section
namespace Go.Pev.Pl
open Tok
end Go.Pev.Pl
end
end
section
namespace Go.Pev.Pl
open Tok
theorem AdF(ts:List Tie)(t:Tie)(k:Int):trk (ts++[t]) k=trk ts k++if t.2.2.2.1=true∧k≤t.2.2.1 then [ed t]else []:=by rw[AO3];congr 1;unfold trk;rw[List.filter_cons];by_cases h:t.2.2.2.1=true∧k≤t.2.2.1;rw[Ap5 h,h.1,Apr h.2];rfl;rw[Ap4 h,Ap4];rfl;rw[Apt,Aps];exact h
theorem AIc(k:Int):∀ (ts a:List Tie) (acc:List Edge),acc=trk a k→ts.foldl (fun acc t=>if t.2.2.2.1=true∧k≤t.2.2.1 then acc++[ed t]else acc) acc=trk (a++ts) k:=by
 intro ts;induction ts with
  |nil=>intro a acc h;simpa using h
  |cons t ts ih=>intro a acc h;rw[AqY,ih (a++[t])];simp;rw[AdF,← h];split<;>simp
theorem AjR(ts:List Tie)(k:Int):(trk ts k).length≤ts.length:=by unfold trk;rw[Aqk];exact List.length_filter_le _ _
theorem AjQ(ts:List Tie)(k:Int):∀ e∈trk ts k,e∈ts.map ed:=by intro e he;obtain⟨t,h1,_,_,rfl⟩:=Ako.1 he;exact AqU.2 ⟨t,h1,rfl⟩
theorem Afz(n:Int)(ts:List Tie)(hs:ts.length≤400)(k:Int):SJ ((n,(ts,())),k,())=some (trk ts k,()):=by
 rw[SH,QG]
 have e:=CC (step:=D8) (fun i (a:List Edge)=>(k,a,ts,AH ts,(i:Int),())) ts (fun t a=>.inl (if t.2.2.2.1=true∧k≤t.2.2.1 then a++[ed t]else a)) (fun a=>.inl (a,())) (fun i a=>a.length≤i) (by omega)
  (fun i x a hi hx ha=>by
   refine⟨fun m' h' => ?_,fun r h'=>(by cases h')⟩
   cases h'
   constructor
   ·rw[D8,AK,AN,Apr hi]
    simp only[Aa hx,AK]
    rw[AO (by omega),Ao,A7 (by simp only[Apw,Ap8];omega)]
    cases h4:x.2.2.2.1
    ·simp
    ·by_cases h5:k≤x.2.2.1
     ·simp[h5,ed,Ai]
     ·simp[h5]
   ·split
    ·rw[Ap3];simp;omega
    ·omega)
  (fun a _=>by rw[D8,AK,AN,Apo (by omega)]) [] (Ap1 _)
 have e':AL D8 many (k,[],ts,AH ts,(0:Int),())=_:=e;simp only[e'];rw[BD (fun(t:Tie) (a:List Edge)=>if t.2.2.2.1=true∧k≤t.2.2.1 then a++[ed t]else a),AIc k ts [] [] rfl];rfl
theorem AXw(n:Int)(ts:List Tie)(hs:ts.length≤400)(k:Int):Vt ((n,(ts,())),k,())=some (trk ts k,()):=by
 rw[Wr,Rl]
 have e:=CC (step:=IA) (fun i (a:List Edge)=>(k,n,ts,a,(i:Int),())) ts (fun t a=>.inl (if t.2.2.2.1=true∧k≤t.2.2.1 then a++[ed t]else a)) (fun a=>.inl (a,())) (fun i a=>a.length≤i) (by omega)
  (fun i x a hi hx ha=>by
   refine⟨fun m' h' => ?_,fun r h'=>(by cases h')⟩
   cases h'
   constructor
   ·rw[IA,AK,AN,Apr hi]
    simp only[Aa hx,AK]
    rw[AO (by omega),Ao,A7 (by simp only[Apw,Ap8];omega)]
    cases h4:x.2.2.2.1
    ·simp
    ·by_cases h5:k≤x.2.2.1
     ·simp[h5,ed,Ai]
     ·simp[h5]
   ·split
    ·rw[Ap3];simp;omega
    ·omega)
  (fun a _=>by rw[IA,AK,AN,Apo (by omega)]) [] (Ap1 _)
 have e':AL IA many (k,n,ts,[],(0:Int),())=_:=e;simp only[e'];rw[BD (fun(t:Tie) (a:List Edge)=>if t.2.2.2.1=true∧k≤t.2.2.1 then a++[ed t]else a),AIc k ts [] [] rfl];rfl
theorem RG2.inK{N:Nat}{ts:List Tie}(h:RG2 N ts)(k:Int):∀ e∈trk ts k,In (N:Int) e.1∧In (N:Int) e.2.1:=fun e he=>h.inE e (AjQ ts k e he)
theorem RG2.Api{N:Nat}{ts:List Tie}(h:RG2 N ts)(k:Int):(trk ts k).length≤400:=ArD (AjR ts k) h.ht
end Go.Pev.Pl
end
section
namespace Go.Pev.Pl
open Tok
end Go.Pev.Pl
end
section
namespace Go.Pev.Pl
open Tok
end Go.Pev.Pl
end
section
namespace Go.Pev.Pl
open Tok
end Go.Pev.Pl
end
section
namespace Go.Pev.Pl
open Tok
end Go.Pev.Pl
end
section
namespace Go.Pev.Pl
open Tok
end Go.Pev.Pl
end
section
namespace Go.Pev.Pl
open Tok
end Go.Pev.Pl
end
section
namespace Go.Pev.Pl
open Tok
end Go.Pev.Pl
end
section
namespace Go.Pev.Pl
open Tok
end Go.Pev.Pl
end
section
namespace Go.Pev.Pl
section
variable {N top:Nat} {ts w:List Tie} (hp:w.Perm ts) (hi:∀ x∈ts,InE N (ed x)) (hl:∀ t∈ts,0≤t.2.2.1∧t.2.2.1≤(top:Int)) (hfo:Fo N (trk ts 0)) (hlie:∀ x∈ts,x.2.2.2.1=false→Con (trk ts x.2.2.1) x.1 x.2.1)
include hp hi
include hl hfo hlie
end
end Go.Pev.Pl
end
section
namespace Go.Pev.Pl
open Tok
end Go.Pev.Pl
end
section
namespace Go.Pev.Pl
open Tok
end Go.Pev.Pl
end
section
namespace Go.Pev.Pl
open Tok
noncomputable section
end
end Go.Pev.Pl
end
section
namespace Go.Pev.Pl
open Tok
end Go.Pev.Pl
end
section
namespace Go.Pev.Pl
open Tok
end Go.Pev.Pl
end
section
namespace Go.Pev.Pl
open Tok
def lvl(ts:List Tie)(k:Int):List Tie:=ts.filter fun t=>decide (t.2.2.1=k)
end Go.Pev.Pl
end
section
namespace Go.Pev.Pl
open Tok
section
variable (n:Int) (ts:List Tie)
end
end Go.Pev.Pl
end
section
namespace Go.Pev.Pl
open Tok
def mid(f:Int→Int)(xs:List Int)(i:Nat):List Int:=(xs.take i).map f++xs.drop i
def lb(at0:List Int)(v:Int):Int:=at0.getD v.toNat 0
end Go.Pev.Pl
end
section
namespace Go.Pev.Pl
open Tok
end Go.Pev.Pl
end
section
namespace Go.Pev.Pl
section
variable {α β:Type} [DecidableEq α]
end
end Go.Pev.Pl
end
section
namespace Go.Pev.Pl
open Tok
end Go.Pev.Pl
end
section
namespace Go.Pev.Pl
open Tok
end Go.Pev.Pl
end
section
namespace Go.Pev.Pl
open Tok
end Go.Pev.Pl
end
section
namespace Go.Pev.Pl
open Tok
section
variable (n:Int) (a2 a3:Bool) (a4 a5 top:Int)
end
end Go.Pev.Pl
end
section
namespace Go.Pev.Pl
section
variable {α:Type} (z:α)
end
end Go.Pev.Pl
end
section
namespace Go.Pev.Pl
open Tok
end Go.Pev.Pl
end
section
namespace Go.Pev.Pl
open Tok
end Go.Pev.Pl
end
section
namespace Go.Pev.Pl
open Tok
end Go.Pev.Pl
end
section
namespace Go.Pev.Pl
open Tok
theorem VT{n:Int}(l:List Edge)(hs:l.length<1073741824)(ha:∀ e∈l,In n e.1∧In n e.2.1):
  ∀ (m i c1 c2:Nat) (rings:List (List Int)) (t1 t2:List Bool),i+m=l.length→t1.length=i→t2.length=i→FC n rings (l.take i)→m<c1→m<c2 →
  ∃ zs b1 b2,AU IW c1 (l,n,rings,(0:Int),t1,(i:Int),())=some (.inl (n,zs,(0:Int),b1,()))∧AU Cn c2 (n,rings,(0:Int),t2,l,(l.length:Int),(i:Int),())=some (.inl (n,zs,(0:Int),b2,()))∧FC n zs l:=by
 intro m;induction m with
  |zero=>
   intro i c1 c2 rings t1 t2 hi ht1 ht2 h hc1 hc2;obtain⟨c1,rfl⟩:∃ c,c1=c+1:=⟨c1-1,by omega⟩
   obtain⟨c2,rfl⟩:∃ c,c2=c+1:=⟨c2-1,by omega⟩
   rw[ArM (by omega)]at h;refine⟨rings,t1,t2,?_,?_,h⟩;rw[AU,IW,AK,AN,Apo (by omega)];rw[AU,Cn,AN,Apo (by omega)]
  |succ m ih=>
   intro i c1 c2 rings t1 t2 hi ht1 ht2 h hc1 hc2;obtain⟨c1,rfl⟩:∃ c,c1=c+1:=⟨c1-1,by omega⟩
   obtain⟨c2,rfl⟩:∃ c,c2=c+1:=⟨c2-1,by omega⟩
   have hi':i<l.length:=by omega
   have hx:l[i]? = some l[i]:=Apz hi';obtain⟨iu,iv⟩:=ha _ (Aq5 hi');obtain⟨zs,q,e1,e2,_⟩:=AWc h iu iv;obtain⟨zs',q',f1,f2,_⟩:=ATF (n:=n) (rings:=rings) l[i].1 l[i].2.1 h.fr.dom;rw[e1]at f1;cases f1;rw[← Arv hi']at e2;obtain⟨zs2,b1,b2,g1,g2,g3⟩:=ih (i+1) c1 c2 zs (Ai t1 [ieq q 0]) (Ai t2 [ieq q 0]) (by omega) (by simp[DG,ht1]) (by simp[DG,ht2]) e2 (by omega) (by omega);refine⟨zs2,b1,b2,?_,?_,g3⟩;rw[AU,IW,AK,AN,Apr hi'];simp only[Aa hx,f2];rw[AO (by omega),A7 (by simp only[AK,Apw,Ap8];omega)];exact g1;rw[AU,Cn,AN,Apr hi'];simp only[Aa hx,e1];rw[AO (by omega),A7 (by simp only[AK,Apw,Ap8];omega)];exact g2
theorem Al8{N:Nat}(h1:1≤N)(hN:N≤64)(l:List Edge)(hs:l.length<1073741824)(ha:∀ e∈l,In (N:Int) e.1∧In (N:Int) e.2.1):
  ∃ zs,fof ((N:Int),l,())=some (((N:Int),(zs,())),0,())∧Akk ((N:Int),l,())=some (((N:Int),(zs,())),0,())∧FC (N:Int) zs l:=by
 have hF:=ZD h1 hN;have hD:=hF.fr.dom;have hRF:=Mq.2 hF.fr;obtain⟨zs,b1,b2,e1,e2,h2⟩:=VT l hs ha l.length 0 many many (BV N) [] [] (by omega) rfl rfl (by simpa using hF) (by simp only[many];omega) (by simp only[many];omega);refine⟨zs,?_,?_,h2⟩;have hth:MQ (((N:Int),(BV N,())),l.flatMap fun e=>[e.1,e.2.1],())=some (0,()):=by have hfl:=ALc l;rw[YV _ _ _ hD (by omega),ALd,AMX,Ap5 hRF];split;rfl;rename_i hc;exact absurd (AqE.2 fun e he=>Apr (ha e he)) hc
 have hm:HT (N:Int)=((N:Int),BV N,0,()):=by unfold HT;rw[Ap5 (show Sz (N:Int)from⟨by omega,by omega⟩),AqW]
 have e2':AU Cn many ((N:Int),BV N,(0:Int),[],l,(l.length:Int),(0:Int),())=_:=e2;rw[AR0,AV1];simp only[ABg,hm,Gq,Apx];rw[Sf,Qr,MY,LI];simp only[Yc l hs,hth,Gq,Apx,At,AK,e2'];have hall:(l.all fun e=>decide (In (N:Int) e.1)&&decide (In (N:Int) e.2.1))=true:=by rw[AqE];intro e he;obtain⟨h1,h2⟩:=ha e he;simp[h1,h2]
 have e1':AL IW many (l,(N:Int),BV N,(0:Int),[],(0:Int),())=_:=(At _ _ _).trans e1;have hE:AMX (N:Int) (BV N) true=0:=by unfold AMX;simp[hRF]
 have hL:WH (((N:Int),(BV N,())),l,())=some (((N:Int),(zs,())),b1,0,()):=by rw[X2,SO];simp only[AIr (N:Int) (BV N) l hD (by omega),hall];rw[hE];simp only[Na,Apx,e1']
 have hm:Xx ((N:Int),())=some ((N:Int),BV N,0,()):=by rw[ARY];unfold HT;rw[Ap5 (show Sz (N:Int)from⟨by omega,by omega⟩),AqW]
 rw[AVT,ARI];simp only[hm,Na,Apx,hL]
theorem RG2.both{N:Nat}{ts:List Tie}(h:RG2 N ts)(k:Int):∃ zs,NW (((N:Int),(ts,())),k,())=some (((N:Int),(zs,())),0,())∧Qp (((N:Int),(ts,())),k,())=some (((N:Int),(zs,())),0,())∧FC (N:Int) zs (trk ts k):=by have hl:=h.Api k;obtain⟨zs,e1,e2,hF⟩:=Al8 h.h1 h.hN (trk ts k) (by omega) (h.inK k);refine⟨zs,?_,?_,hF⟩;rw[X3,SQ];simp only[h.lr,Apx,Afz (N:Int) ts h.ht k,e1];rw[Tn,PA];simp only[h.r21,Apx,AXw (N:Int) ts h.ht k,e2]
end Go.Pev.Pl
end
section
namespace Go.Pev.Pl
open Tok
section
variable (n:Int) (ts:List Tie)
end
end Go.Pev.Pl
end
section
namespace Go.Pev.Pl
open Tok
end Go.Pev.Pl
end
section
namespace Go.Pev.Pl
open Tok
end Go.Pev.Pl
end
section
namespace Go.Pev.Pl
open Tok
end Go.Pev.Pl
end
section
namespace Go.Pev.Pl
open Tok
section
variable (a0:Int) (a1:List Tie) (a2 a3 a4:Int) (a5:List (List Int)) (a6:Int) (a7:List (List Int)) (p q:List Edge)
end
end Go.Pev.Pl
end
section
namespace Go.Pev.Pl
open Tok
end Go.Pev.Pl
end
section
namespace Go.Pev.Pl
theorem Lz{β:Type}(k:Int):∀ m:List (Int×List β),AJ (m.map Prod.snd) (G8 (m.map Prod.fst) k) []=(AR m k).getD []
 |[]=>by simp[G8,AJ,AR]
 |(a,b)::m=>by have ih:=Lz k m;simp only[AqL,G8,AR];by_cases h:a=k;simp[h,AJ];simp only[h,AqB];rw[← ih];simp[AJ]
def Jo(x:Int)(e:Edge):Bool:=decide (e.1=x∨e.2.1=x)
abbrev RM:=List (Int×List (Int×Int×Unit))
def Aox(m:RM)(x:Int):List (Int×Int×Unit):=(AR m x).getD []
end Go.Pev.Pl
end
section
namespace Go.Pev.Pl.SE
open Go.Sort
end Go.Pev.Pl.SE
namespace Go.Pev.Pl
section
variable {N:Nat} {ts:List Tie} {v k:Int} {tks:List Int} {ofm:List (Int×Int)} {outm:RM}
end
end Go.Pev.Pl
end
section
namespace Go.Pev.Pl
end Go.Pev.Pl
end
section
namespace Go.Pev.Pl
section
variable {N:Nat} {ts:List Tie} {v k:Int} {tks:List Int} {ofm:List (Int×Int)} {outm:RM}
end
end Go.Pev.Pl
end
section
namespace Go.Pev.Pl
section
variable {n:Int} {ts:List Tie} {v k e:Int}
end
section
variable {N:Nat} {ts:List Tie} {v k:Int} {tks:List Int} {ofm:List (Int×Int)} {outm:RM}
end
end Go.Pev.Pl
end
section
namespace Go.Pev.Pl
theorem AVd:∀ x:Nat,0<x→∃ k m,x=2 ^ k*(2*m+1):=by
 intro x;induction x using Nat.strongRecOn with
  |_ x ih=>intro hx;by_cases h:x % 2=1;exact⟨0,x/2,by rw[Nat.pow_zero];omega⟩;obtain⟨k,m,e⟩:=ih (x/2) (by omega) (by omega);refine⟨k+1,m,?_⟩;rw[Nat.pow_succ,Nat.mul_comm (2 ^ k) 2,Nat.mul_assoc,← e];omega
theorem QI(k m j:Nat):(2 ^ k*(2*m+1)).testBit j=if j<k then false else if j=k then true else m.testBit (j-k-1):=by
 have:=Nat.testBit_two_pow_mul_add (2*m+1) (Nat.two_pow_pos k) j;rw[Arb]at this;rw[this];by_cases h1:j<k;rw[Ap5 h1,Ap5 h1,Nat.zero_testBit];rw[Ap4 h1,Ap4 h1];by_cases h2:j=k;subst h2;rw[Ap5 rfl,ArG,Nat.testBit_zero];simp;rw[Ap4 h2];obtain⟨d,hd⟩:∃ d,j-k=d+1:=⟨j-k-1,by omega⟩
 rw[hd,Nat.testBit_succ,show(2*m+1)/2=m by omega];rfl
theorem AaK(k m j:Nat):(2 ^ k*(2*m+1)-1).testBit j=if j<k then true else if j=k then false else m.testBit (j-k-1):=by
 have hp:=Nat.two_pow_pos k;have e:2 ^ k*(2*m+1)-1=2 ^ k*(2*m)+(2 ^ k-1):=by rw[Nat.mul_add,AsG];omega
 rw[e,Nat.testBit_two_pow_mul_add (2*m) (by omega) j];by_cases h1:j<k;rw[Ap5 h1,Ap5 h1,Nat.testBit_two_pow_sub_one];simpa using h1;rw[Ap4 h1,Ap4 h1];by_cases h2:j=k;subst h2;rw[Ap5 rfl,ArG,Nat.testBit_zero];simp;rw[Ap4 h2];obtain⟨d,hd⟩:∃ d,j-k=d+1:=⟨j-k-1,by omega⟩
 rw[hd,Nat.testBit_succ,show(2*m)/2=m by omega];rfl
theorem Akr{k m:Nat}(h:2 ^ k*(2*m+1)<2 ^ 32):2 ^ k*(2*m+1) &&& (2 ^ 32-2 ^ k*(2*m+1))=2 ^ k:=by
 have hp:=Nat.two_pow_pos k;have hpos:0<2 ^ k*(2*m+1):=Nat.mul_pos hp (by omega);have hk:k<32:=by have:2 ^ k*1≤2 ^ k*(2*m+1):=Nat.mul_le_mul_left _ (by omega);exact(Nat.pow_lt_pow_iff_right (a:=2) (by omega)).1 (by omega)
 apply Nat.eq_of_testBit_eq;intro j;have e:2 ^ 32-2 ^ k*(2*m+1)=2 ^ 32-((2 ^ k*(2*m+1)-1)+1):=by omega
 rw[Nat.testBit_and,e,Nat.testBit_two_pow_sub_succ (by omega),QI,AaK,Nat.testBit_two_pow];by_cases h1:j<k;rw[Ap5 h1];simp;omega;rw[Ap4 h1,Ap4 h1];by_cases h2:j=k;subst h2;simp[hk];rw[Ap4 h2,Ap4 h2];rw[Apo (show ¬ k=j by omega)];cases m.testBit (j-k-1)<;>simp
def hgt(x:Nat):Nat:=(((List.range 7).find? fun j=>x.testBit j).map (· + 1)).getD 8
theorem AVq(k m:Nat):hgt (2 ^ k*(2*m+1))=min (k+1) 8:=by
 unfold hgt;by_cases h:k<7;have:(List.range 7).find? (fun j=>(2 ^ k*(2*m+1)).testBit j)=some k:=by rw[AsT];refine⟨by rw[QI,Ap4 (by omega),Ap5 rfl],by rw[Aqi];exact h,fun j hj => ?_⟩;rw[QI,Ap5 hj];rfl
 rw[this];simp only[ArK,AqK];omega;have:(List.range 7).find? (fun j=>(2 ^ k*(2*m+1)).testBit j)=none:=by rw[List.find?_eq_none];intro j hj;rw[Aqi]at hj;rw[QI,Ap5 (by omega)];simp
 rw[this];simp only[Option.map_none,Option.getD_none];omega
theorem YP:hgt 0=8:=by decide
theorem AVp(x:Nat):1≤hgt x∧hgt x≤8:=by rcases ArR x with rfl|h;rw[YP];omega;obtain⟨k,m,rfl⟩:=AVd x h;rw[AVq];omega
theorem AnA:((List.range 32).all fun k=>decide (ALI[(2 ^ k*125613361) % 4294967296/134217728]? = some ((k:Nat):Int)∧(2 ^ k*125613361) % 4294967296/134217728<32))=true:=by decide +kernel
theorem Ac5(x:Nat)(hx:x<4294967296):AXo ((x:Int),())=some (if x=0 then 32 else((hgt x-1:Nat):Int),())∨∃ k:Nat,AXo ((x:Int),())=some ((k:Int),())∧k≤32∧min (k+1) 8=hgt x:=by
 right;rw[AUJ,AOt,As];by_cases h0:x=0;subst h0;rw[Apr (show((0:Nat):Int)=0 from rfl),YP];exact⟨32,rfl,by omega,by omega⟩;rw[Apo (by omega)];obtain⟨k,m,rfl⟩:=AVd x (by omega);have hp:=Nat.two_pow_pos k;have hk:k<32:=by have:2 ^ k*1≤2 ^ k*(2*m+1):=Nat.mul_le_mul_left _ (by omega);exact(Nat.pow_lt_pow_iff_right (a:=2) (by omega)).1 (by omega)
 have ha:=Akr (k:=k) (m:=m) (by omega);rw[AVq];generalize 2 ^ k*(2*m+1)=x at *;have e1:IntKind.wrap .u32 (0-(x:Int))=((4294967296-x:Nat):Int):=by rw[IntKind.wrap_u32];omega
 have e2:(BitVec.ofInt (IntKind.bits .u32) (x:Int) &&& BitVec.ofInt (IntKind.bits .u32) ((4294967296-x:Nat):Int)).toNat=2 ^ k:=by
  show(BitVec.ofInt 32 (x:Int) &&& BitVec.ofInt 32 ((4294967296-x:Nat):Int)).toNat=2 ^ k;rw[BitVec.toNat_and,AsU,AsU];have q1:((x:Int) % ((2 ^ 32:Nat):Int)).toNat=x:=by omega
  have q2:(((4294967296-x:Nat):Int) % ((2 ^ 32:Nat):Int)).toNat=4294967296-x:=by omega
  rw[q1,q2];exact ha
 have hk32:2 ^ k≤2 ^ 31:=Nat.pow_le_pow_right (by omega) (by omega);rw[e1,e2,IntWalk.u32_in ((2 ^ k:Nat):Int) ⟨by omega,by omega⟩];have e3:IntKind.wrap .u32 (((2 ^ k:Nat):Int)*125613361)=((2 ^ k*125613361 % 4294967296:Nat):Int):=by rw[IntKind.wrap_u32];omega
 have e4:shr? .u32 ((2 ^ k*125613361 % 4294967296:Nat):Int) (27:Int)=some ((2 ^ k*125613361 % 4294967296/134217728:Nat):Int):=by rw[Rr,AIz,Ap4 (by omega),show min (27:Int).toNat (IntKind.bits .u32)=27 from rfl,Ari _ (by decide)];rfl
 rw[e3];simp only[e4];have ht:=AqE.1 AnA k (by rw[Aqi];exact hk);rw[Arc]at ht;obtain⟨t1,t2⟩:=ht;generalize 2 ^ k*125613361 % 4294967296/134217728=q at *;simp only[Ao,Ab];have hl:AH ALI=32:=rfl;rw[hl,Apr (show(0:Int)≤(q:Int) by omega),Apr (show(q:Int)<32 by omega)];simp only[Aqr,AC7 t1];rw[Ad (by omega)];exact⟨k,rfl,by omega,rfl⟩
theorem AMI(x:Nat)(hx:x<4294967296):WS ((x:Int),())=some ((hgt x:Int),()):=by
 rw[Yv,Ss];obtain⟨k,e,h1,h2⟩:∃ k:Nat,AXo ((x:Int),())=some ((k:Int),())∧k≤32∧min (k+1) 8=hgt x:=by rcases Ac5 x hx with e|h;by_cases h0:x=0;rw[Ap5 h0]at e;subst h0;exact⟨32,e,by omega,by rw[YP];omega⟩;rw[Ap4 h0]at e;have:=AVp x;exact⟨hgt x-1,e,by omega,by omega⟩;exact h
 simp only[e];rw[AO (by omega),AlN,← h2];congr 2;omega
theorem AcH(x j:Nat)(hx:x<4294967296)(hj:j≤31):AWP ((x:Int),(j:Int),())=some (if x.testBit j then 1 else 0,()):=by
 rw[AMV,AGw,Ab,Ab,Apo (by omega),Apo (by omega),IntWalk.u64_in _ (by omega)];have e4:shr? .u32 (x:Int) (j:Int)=some ((x/2 ^ j:Nat):Int):=by rw[Rr,AIz,Ap4 (by omega),AqW,show min j (IntKind.bits .u32)=j from Aqw (by show j≤32;omega),Ari _ (Int.pow_nonneg (by omega))];rfl
 rw[e4];have hq:x/2 ^ j≤x:=Nat.div_le_self _ _;have e2:(BitVec.ofInt (IntKind.bits .u32) ((x/2 ^ j:Nat):Int) &&& BitVec.ofInt (IntKind.bits .u32) (1:Int)).toNat=if x.testBit j then 1 else 0:=by
  show(BitVec.ofInt 32 ((x/2 ^ j:Nat):Int) &&& BitVec.ofInt 32 (1:Int)).toNat=_;rw[BitVec.toNat_and,AsU,AsU];have q1:(((x/2 ^ j:Nat):Int) % ((2 ^ 32:Nat):Int)).toNat=x/2 ^ j:=by rw[← Int.natCast_emod,AqW];exact Aqm (by omega)
  have q2:((1:Int) % ((2 ^ 32:Nat):Int)).toNat=1:=rfl;rw[q1,q2,Nat.and_one_is_mod];have:x.testBit j=decide (x/2 ^ j % 2=1):=Nat.testBit_eq_decide_div_mod_eq;rw[this];by_cases h:x/2 ^ j % 2=1;simp[h];simp only[h,AqA];have:x/2 ^ j % 2=0:=by omega
  simp[this]
 simp only[e2];by_cases h:x.testBit j=true;simp only[h,AqP];rfl;simp only[h];rfl
theorem AF7(x:Nat)(hx:x<4294967296):Qj ((x:Int),())=some ((hgt x:Int),()):=by
 rw[Tl,O7];have hm:10<many:=by simp only[many];omega
 have step:∀ i:Nat,i<7→C7 ((x:Int),((i+1:Nat):Int),())=if x.testBit i then some (.inr (.inl (((i+1:Nat):Int),())))else some (.inl ((x:Int),((i+1+1:Nat):Int),())):=by intro i hi;rw[C7,Ab,Apr (by omega),A8 (by omega),Ar5,AcH x i hx (by omega),AO (by omega)];by_cases h:x.testBit i=true;simp only[h,AqP,As];rfl;simp only[h,As];rfl
 have last:C7 ((x:Int),((7+1:Nat):Int),())=some (.inr (.inl ((8:Int),()))):=by rw[C7,Ab,Apo (by omega)];rfl
 rcases AI9 (step:=C7) (fun i=>((x:Int),((i+1:Nat):Int),())) 7 (fun i=>x.testBit i) (fun i=>.inl (((i+1:Nat):Int),())) (.inl (8,())) (by omega) step last with⟨k,hk,hP,hF,e⟩|⟨hP,e⟩
 have e':AL C7 many ((x:Int),(1:Int),())=_:=e;simp only[e'];have:(List.range 7).find? (fun j=>x.testBit j)=some k:=by rw[AsT];exact⟨hP,by rw[Aqi];exact hk,fun j hj=>by rw[hF j hj];rfl⟩
 unfold hgt;rw[this];rfl;have e':AL C7 many ((x:Int),(1:Int),())=_:=e;simp only[e'];have:(List.range 7).find? (fun j=>x.testBit j)=none:=by rw[List.find?_eq_none];intro j hj;rw[Aqi]at hj;rw[hP j hj];simp
 unfold hgt;rw[this];rfl
end Go.Pev.Pl
end
section
namespace Go.Pev.Pl
theorem AnC{σ ρ:Type}{step:σ→Option (σ⊕ρ)}(st:Nat→σ)(N:Nat)(r:ρ)(hN:N<9223372036854775808)(h:∀ i,i<N→step (st i)=some (.inl (st (i+1))))(hr:step (st N)=some (.inr r)):AL step many (st 0)=some r:=by
 have key:∀ (m i n:Nat),i+m=N→m<n→AU step n (st i)=some r:=by
  intro m;induction m with
   |zero=>
    intro i n hi hn;obtain⟨n,rfl⟩:∃ k,n=k+1:=⟨n-1,by omega⟩
    have:i=N:=by omega
    subst this;rw[AU,hr]
   |succ m ih=>
    intro i n hi hn;obtain⟨n,rfl⟩:∃ k,n=k+1:=⟨n-1,by omega⟩
    rw[AU,h i (by omega)];exact ih (i+1) n (by omega) (by omega)
 rw[At];exact key N 0 many (by omega) (by simp only[many];omega)
theorem foldI{α:Type}(f:Nat→α→α)(I:Nat→α→Prop):∀ (m:Nat) (a:α),(∀ k a,k<m→I k a→I (k+1) (f k a))→I 0 a→I m ((List.range m).foldl (fun a k=>f k a) a):=by
 intro m;induction m with
  |zero=>intro a _ h;exact h
  |succ m ih=>intro a hs h0;rw[Aqp,List.foldl_append];exact hs m _ (by omega) (ih a (fun k a hk=>hs k a (by omega)) h0)
theorem AFF{m i x:Nat}(h:(List.range m)[i]? = some x):x=i∧i<m:=by obtain⟨h1,h2⟩:=AqZ.1 h;rw[AqH]at h1;rw[List.getElem_range]at h2;exact⟨h2.symm,h1⟩
theorem AhW{α:Type}(n:Nat)(x:α):Cb n x=List.replicate n x:=rfl
noncomputable def htF(script:List Int)(t:Int):Int:=if t<0 then 1 else match Sn (script,t,())with
 |some (x,_)=>(hgt x.toNat:Int)
 |none=>1
def U32(l:List Int):Prop:=∀ x∈l,0≤x∧x≤4294967295
theorem Abn(s:List Int)(t:Int):AmG (s,t,())=Sn (s,t,()):=by rw[AWR,ATH,Sm,Q9]<;>rfl
theorem Yr{s:List Int}(hs:U32 s){t:Int}(ht:0≤t):∃ x:Nat,Sn (s,t,())=some ((x:Int),())∧x<4294967296:=by obtain⟨t,rfl⟩:=Ap7 ht;rw[Sm,Q9,Ab,Apo (by omega),AK,As];by_cases h0:s.length=0;rw[Apr (by omega)];exact⟨0,rfl,by omega⟩;rw[Apo (by omega)];simp only[HR (show 0<s.length by omega)];have hm:t % s.length<s.length:=ArU _ (by omega);have hx:s[t % s.length]? = some s[t % s.length]:=Apz hm;have hb:=hs _ (Aq5 hm);simp only[Aa hx];generalize s[t % s.length]=x at *;obtain⟨x,rfl⟩:=Ap7 hb.1;exact⟨x,rfl,by omega⟩
theorem AlO{s:List Int}(hs:U32 s)(t:Int):1≤htF s t∧htF s t≤8:=by unfold htF;by_cases h:t<0;rw[Ap5 h];omega;rw[Ap4 h];obtain⟨x,e,_⟩:=Yr hs (show 0≤t by omega);simp only[e];have:=AVp (x:Int).toNat;omega
theorem AKo(f:Int→Int):∀ (xs a:List Int),xs.foldl (fun a x=>a++[f x]) a=a++xs.map f:=by
 intro xs;induction xs with
  |nil=>intro a;simp
  |cons x xs ih=>intro a;rw[AqY,ih];simp
theorem Z4{s:List Int}(hs:U32 s)(toks:List Int)(hl:toks.length≤1000):NA (toks,s,())=some (toks.map (htF s),()):=by
 have e:=CC (step:=E1) (fun i (a:List Int)=>(s,a,toks,AH toks,(i:Int),())) toks (fun x a=>.inl (a++[htF s x])) (fun a=>.inl (a,())) (fun i a=>a.length≤i) (by omega)
  (fun i x a hi hx ha=>by
   refine⟨fun m' h' => ?_,fun r h'=>(by cases h')⟩
   cases h'
   constructor
   ·rw[E1,AK,AN,Apr hi]
    simp only[Aa hx,AK]
    rw[AO (by omega),Ab]
    unfold htF
    by_cases h:x<0
    ·rw[Apr h,Ap5 h]
     simp only
     rw[A7 (by simp only[Aqe];omega)]
     rfl
    ·rw[Apo h,Ap4 h]
     obtain⟨y,ey,hy⟩:=Yr hs (show 0≤x by omega)
     simp only[ey,AMI y hy,AqW]
     rw[A7 (by simp only[Aqe];omega)]
     rfl
   ·simp;omega)
  (fun a _=>by rw[E1,AK,AN,Apo (by omega)]) [] (Ap1 _)
 rw[PZ,Lo];have e':AL E1 many (s,([]:List Int),toks,AH toks,(0:Int),())=_:=e;simp only[e'];rw[BD (fun(x:Int) (a:List Int)=>a++[htF s x]),AKo];rfl
theorem AAf{s:List Int}(hs:U32 s)(toks:List Int)(hl:toks.length≤1000):Nb (toks,s,())=some (toks.map (htF s),()):=by
 have e:=CC (step:=FJ) (fun i (a:List Int)=>(toks,s,a,(i:Int),())) toks (fun x a=>.inl (a++[htF s x])) (fun a=>.inl (a,())) (fun i a=>a.length≤i) (by omega)
  (fun i x a hi hx ha=>by
   refine⟨fun m' h' => ?_,fun r h'=>(by cases h')⟩
   cases h'
   constructor
   ·rw[FJ,AK,AN,Apr hi]
    simp only[Aa hx,AK,Abn]
    rw[AO (by omega),Ao]
    unfold htF
    by_cases h:x<0
    ·rw[Apo (by omega),Ap5 h]
     simp only
     rw[A7 (by simp only[Aqe];omega)]
     rfl
    ·rw[Apr (by omega),Ap4 h]
     obtain⟨y,ey,hy⟩:=Yr hs (show 0≤x by omega)
     simp only[ey,AF7 y hy,AqW]
     rw[A7 (by simp only[Aqe];omega)]
     rfl
   ·simp;omega)
  (fun a _=>by rw[FJ,AK,AN,Apo (by omega)]) [] (Ap1 _)
 rw[Qi,MO];have e':AL FJ many (toks,s,([]:List Int),(0:Int),())=_:=e;simp only[e'];rw[BD (fun(x:Int) (a:List Int)=>a++[htF s x]),AKo];rfl
structure HO(H:List Int)(n:Nat):Prop where
 len:H.length=n
 pos:0<n
 top:n≤1000
 rng:∀ h∈H,1≤h∧h≤8
theorem HO.at{H:List Int}{n:Nat}(h:HO H n){i:Nat}(hi:i<n):1≤H.getD i 0∧H.getD i 0≤8∧idx H (i:Int)=some (H.getD i 0):=by
 have hl:=h.len;have hm:H.getD i 0∈H:=by rw[Apu,Apz (by omega)];exact Aq5 _
 have:=h.rng _ hm;exact⟨by omega,by omega,EV 0 (by omega)⟩
def kst(H:List Int)(n i h:Nat):Nat:=(((List.range n).find? fun k=>decide ((h:Int)<H.getD ((i+(k+1)) % n) 0)).map (· + 1)).getD 1
def nxL(H:List Int)(n i:Nat):List Int:=(List.range (H.getD i 0).toNat).map fun h=>(((i+kst H n i h) % n:Nat):Int)
def NX(H:List Int)(n:Nat):List (List Int):=(List.range n).map (nxL H n)
theorem X5{H:List Int}{n i h:Nat}(hn:0<n)(hi:i<n)(hh:(h:Int)<H.getD i 0):
  1≤kst H n i h∧kst H n i h≤n∧(h:Int)<H.getD ((i+kst H n i h) % n) 0∧∀ k,1≤k→k<kst H n i h→H.getD ((i+k) % n) 0≤(h:Int):=by
 unfold kst;cases hf:(List.range n).find? (fun k=>decide ((h:Int)<H.getD ((i+(k+1)) % n) 0))with
  |none=>exfalso;rw[List.find?_eq_none]at hf;have:=hf (n-1) (by rw[Aqi];omega);rw[show i+(n-1+1)=i+n by omega,Nat.add_mod_right,Aqm hi]at this;exact this (Apr hh)
  |some k=>rw[AsT]at hf;obtain⟨h1,h2,h3⟩:=hf;rw[Aqi]at h2;rw[Arc]at h1;simp only[ArK,AqK];refine⟨by omega,by omega,h1,fun j j1 j2 => ?_⟩;have:=h3 (j-1) (by omega);rw[show i+(j-1+1)=i+j by omega]at this;simpa using this
theorem Ah6{H:List Int}{n:Nat}(ho:HO H n)(d2 d3:List Int)(d4:List (List Int))(d6:List Int){i h:Nat}(hi:i<n)(hh:(h:Int)<H.getD i 0):
  AL Io many (H,(n:Int),d2,d3,d4,(i:Int),d6,(h:Int),(1:Int),())=some (.inl (H,(n:Int),d2,d3,d4,(i:Int),d6,(h:Int),(kst H n i h:Int),())):=by
 obtain⟨k1,k2,k3,k4⟩:=X5 ho.pos hi hh;have ht:=ho.top;have hp:=ho.pos
 have:=AnC (step:=Io) (fun k=>(H,(n:Int),d2,d3,d4,(i:Int),d6,(h:Int),((k+1:Nat):Int),())) (kst H n i h-1) (.inl (H,(n:Int),d2,d3,d4,(i:Int),d6,(h:Int),(kst H n i h:Int),())) (by omega)
  (fun k hk=>by
   unfold Io
   dsimp only
   rw[wrap_add (by omega),HR hp]
   simp only[(ho.at (ArU (i+(k+1)) hp)).2.2]
   rw[Ao,Apr (k4 (k+1) (by omega) (by omega)),AO (by omega)])
  (by
   rw[show kst H n i h-1+1=kst H n i h by omega]
   unfold Io
   dsimp only
   rw[wrap_add (by omega),HR hp]
   simp only[(ho.at (ArU (i+kst H n i h) hp)).2.2]
   rw[Ao,Apo (by omega)])
 exact this
theorem Ah7{H:List Int}{n:Nat}(ho:HO H n)(d2 d3:List Int)(d4:List (List Int)){i:Nat}(hi:i<n):
  AL GK many (H,(n:Int),d2,d3,d4,(i:Int),([]:List Int),(0:Int),())=some (.inl (H,(n:Int),d2,d3,d4,(i:Int),nxL H n i,())):=by
 obtain⟨a1,a2,a3⟩:=ho.at hi;have ht:=ho.top;have hp:=ho.pos;obtain⟨m,hm⟩:=Ap7 (show 0≤H.getD i 0 by omega)
 have e:=CC (step:=GK) (fun h (a:List Int)=>(H,(n:Int),d2,d3,d4,(i:Int),a,(h:Int),())) (List.range m) (fun h a=>.inl (a++[(((i+kst H n i h) % n:Nat):Int)])) (fun a=>.inl (H,(n:Int),d2,d3,d4,(i:Int),a,())) (fun j a=>a.length≤j) (by rw[AqH];omega)
  (fun j x a hj hx ha=>by
   refine⟨fun m' h' => ?_,fun r h'=>(by cases h')⟩
   cases h'
   obtain⟨rfl,hjm⟩:=AFF hx
   have hh:(x:Int)<H.getD i 0:=by omega
   obtain⟨k1,k2,_⟩:=X5 hp hi hh
   constructor
   ·unfold GK
    dsimp only
    simp only[a3]
    rw[Ab,Apr hh]
    simp only[Ah6 ho d2 d3 d4 a hi hh]
    rw[wrap_add (by omega),HR hp]
    simp only
    rw[A7 (by simp only[AK,Aqe];omega),AO (by omega)]
    rfl
   ·simp;omega)
  (fun a _=>by
   rw[AqH]
   unfold GK
   dsimp only
   simp only[a3]
   rw[Ab,Apo (by omega)]) [] (Ap1 _)
 have e':AL GK many (H,(n:Int),d2,d3,d4,(i:Int),([]:List Int),(0:Int),())=_:=e;rw[e',BD (fun(h:Nat) (a:List Int)=>a++[(((i+kst H n i h) % n:Nat):Int)])];have hf:∀ (xs:List Nat) (a:List Int),xs.foldl (fun a h=>a++[(((i+kst H n i h) % n:Nat):Int)]) a=a++xs.map fun h=>(((i+kst H n i h) % n:Nat):Int):=by
  intro xs;induction xs with
   |nil=>intro a;simp
   |cons x xs ih=>intro a;rw[AqY,ih];simp
 rw[hf];unfold nxL;rw[hm];rfl
theorem AMS{toks H:List Int}{n:Nat}(hr:Rt toks)(hn:toks.length=n)(ho:HO H n):WU (toks,H,())=some (toks,H,NX H n,0,()):=by
 have ht:=ho.top;have hp:=ho.pos;have hl:=ho.len;have hd:I5 (toks,())=some (true,()):=by rw[I4];simp[hr]
 rw[Yy,Su,hd];simp only[Apx,AK,hn,hl,As];rw[Apo (by omega)];simp only[Apy,Apx]
 have e0:=AnC (step:=Iq) (fun k=>(toks,H,(n:Int),(k:Int),())) n (.inr (.inl (toks,H,(n:Int),()))) (by omega)
  (fun k hk=>by
   obtain⟨a1,a2,a3⟩:=ho.at hk
   unfold Iq
   dsimp only
   rw[AN,Apr hk]
   simp only[a3,Ab]
   rw[Apo (by omega),Apo (by omega),AO (by omega)])
  (by unfold Iq;dsimp only;rw[AN,Apo (by omega)])
 have e0':AL Iq many (toks,H,(n:Int),(0:Int),())=_:=e0;simp only[e0',Ap8,hn,hl];rw[A7 (by omega)];simp only[];have d1:Ai ([]:List Int) toks=toks:=by simp[Ai]
 have d2:Ai ([]:List Int) H=H:=by simp[Ai]
 simp only[d1,d2]
 have e:=CC (step:=Ip) (fun i (a:List (List Int))=>(H,(n:Int),toks,H,a,(i:Int),())) (List.range n) (fun i a=>.inl (a++[nxL H n i])) (fun a=>.inl (toks,H,a,())) (fun j a=>a.length≤j) (by rw[AqH];omega)
  (fun j x a hj hx ha=>by
   refine⟨fun m' h' => ?_,fun r h'=>(by cases h')⟩
   cases h'
   obtain⟨rfl,hjm⟩:=AFF hx
   constructor
   ·unfold Ip
    dsimp only
    rw[AN,Apr hjm]
    simp only[Ah7 ho toks H a hjm]
    rw[A7 (by simp only[AK,Aqe];omega),AO (by omega)]
    rfl
   ·simp;omega)
  (fun a _=>by
   rw[AqH]
   unfold Ip
   dsimp only
   rw[AN,Apo (by omega)]) [] (Ap1 _)
 have e':AL Ip many (H,(n:Int),toks,H,([]:List (List Int)),(0:Int),())=_:=e;simp only[e'];rw[BD (fun(i:Nat) (a:List (List Int))=>a++[nxL H n i])];have hf:∀ (xs:List Nat) (a:List (List Int)),xs.foldl (fun a i=>a++[nxL H n i]) a=a++xs.map (nxL H n):=by
  intro xs;induction xs with
   |nil=>intro a;simp
   |cons x xs ih=>intro a;rw[AqY,ih];simp
 rw[hf];rfl
end Go.Pev.Pl
end
section
namespace Go.Pev.Pl
def psn(n k:Nat):Nat:=n-1-k % n
theorem AJk{n k j:Nat}(hn:0<n)(hj:j≤k)(hjn:j≤n):psn n (k-j)=(psn n k+j) % n:=by
 unfold psn;have hm:k % n<n:=ArU _ hn;obtain⟨q,hq⟩:∃ q,k=n*q+k % n:=⟨k/n,(Nat.div_add_mod k n).symm⟩
 generalize k % n=r at *;by_cases h:j≤r;have e:(k-j) % n=r-j:=by rw[hq,show n*q+r-j=r-j+n*q by omega,Nat.add_mul_mod_self_left,Aqm (by omega)]
 rw[e,Aqm (by omega)];omega;have hq1:1≤q:=by
  apply Aql;intro hh;have:q=0:=by omega
  subst this;rw[Nat.mul_zero]at hq;omega
 obtain⟨p,rfl⟩:∃ p,q=p+1:=⟨q-1,by omega⟩
 have e:(k-j) % n=n+r-j:=by rw[hq,Nat.mul_add,AsG,show n*p+n+r-j=n+r-j+n*p by omega,Nat.add_mul_mod_self_left];by_cases h2:n+r-j=n;omega;exact Aqm (by omega)
 rw[e];by_cases h3:j=n;subst h3;rw[Nat.add_mod_right,Aqm (by omega)];omega;rw[show n-1-r+j=n+(j-r-1) by omega,Nat.add_mod_left,Aqm (by omega)];omega
theorem Aej{n k:Nat}(hn:0<n):psn n k<n:=by unfold psn;omega
def AYT(B:List Int)(i:Nat)(m:Nat):List Int:=(List.range m).foldl (fun B h=>B.set h (i:Int)) B
theorem ABy(B:List Int)(i m:Nat)(hm:m≤B.length):(AYT B i m).length=B.length∧∀ h,(AYT B i m).getD h 0=if h<m then(i:Int)else B.getD h 0:=by
 have:=foldI (fun h (B:List Int)=>B.set h (i:Int)) (fun k C=>C.length=B.length∧∀ h,C.getD h 0=if h<k then(i:Int)else B.getD h 0) m B (fun k C hk hC=>by obtain⟨c1,c2⟩:=hC;refine⟨by rw[Ard];exact c1,fun h => ?_⟩;rw[Apu,List.getElem?_set];by_cases e:k=h;subst e;rw[Ap5 rfl,Ap5 (by omega),Ap5 (by omega)];rfl;rw[Ap4 e,← Apu,c2];by_cases h2:h<k;rw[Ap5 h2,Ap5 (by omega)];rw[Ap4 h2,Ap4 (by omega)]) ⟨rfl,fun h=>by simp⟩
 exact this
theorem AmT(H:List Int)(n:Int)(T T2:List Int)(M:List (List Int))(B:List Int)(hB:B.length=8)(i:Nat)(d7 d8:Int)(m:Nat)(hm:m≤8):
  AL Ee many (H,n,T,T2,M,B,(i:Int),d7,d8,(m:Int),(0:Int),())=some (.inl (H,n,T,T2,M,AYT B i m,d7,d8,())):=by
 have e:=CC (step:=Ee) (fun h (B:List Int)=>(H,n,T,T2,M,B,(i:Int),d7,d8,(m:Int),(h:Int),())) (List.range m) (fun h B=>.inl (B.set h (i:Int))) (fun B=>.inl (H,n,T,T2,M,B,d7,d8,())) (fun j B=>B.length=8) (by rw[AqH];omega)
  (fun j x B hj hx hB=>by
   refine⟨fun m' h' => ?_,fun r h'=>(by cases h')⟩
   cases h'
   obtain⟨rfl,hjm⟩:=AFF hx
   constructor
   ·unfold Ee
    dsimp only
    rw[AN,Apr hjm,Ao,Apr (by omega),Ab,Apr (by omega),AK,hB,Ab,Apr (by omega),AGN,AO (by omega)]
    rfl
   ·rw[Ard];exact hB)
  (fun B _=>by
   rw[AqH]
   unfold Ee
   dsimp only
   rw[AN,Apo (by omega)]) B hB
 have e':AL Ee many (H,n,T,T2,M,B,(i:Int),d7,d8,(m:Int),(0:Int),())=_:=e;rw[e',BD (fun(h:Nat) (B:List Int)=>B.set h (i:Int))];rfl
abbrev TS:=List (List Int)×List Int
def hAt(H:List Int)(i:Nat):Nat:=(H.getD i 0).toNat
def twF(H:List Int)(n k:Nat)(a:TS):TS:=(if n≤k then a.1.set (psn n k) (a.2.take (hAt H (psn n k)))else a.1,AYT a.2 (psn n k) (hAt H (psn n k)))
structure TI2(H:List Int)(n k:Nat)(a:TS):Prop where
 lenM:a.1.length=n
 lenB:a.2.length=8
 near:∀ h j,1≤j→j≤k→h<hAt H (psn n (k-j))→(∀ j',1≤j'→j'<j→hAt H (psn n (k-j'))≤h)→a.2.getD h 0=((psn n (k-j):Nat):Int)
 rows:∀ k',n≤k'→k'<k→a.1.getD (psn n k') []=nxL H n (psn n k')
theorem HO.hAt{H:List Int}{n:Nat}(ho:HO H n){i:Nat}(hi:i<n):1≤hAt H i∧hAt H i≤8∧H.getD i 0=(hAt H i:Int):=by obtain⟨a1,a2,_⟩:=ho.at hi;unfold Go.Pev.Pl.hAt;omega
theorem TI2.step{H:List Int}{n k:Nat}(ho:HO H n)(hk:k<2*n){a:TS}(h:TI2 H n k a):TI2 H n (k+1) (twF H n k a):=by
 have hp:=ho.pos;have hi:=Aej (k:=k) hp;obtain⟨q1,q2,q3⟩:=ho.hAt hi;have hlB:=h.lenB;obtain⟨s1,s2⟩:=ABy a.2 (psn n k) (hAt H (psn n k)) (by omega);refine⟨?_,?_,?_,?_⟩;unfold twF;simp only;split;rw[Ard];exact h.lenM;exact h.lenM;show(AYT a.2 _ _).length=8;rw[s1];exact h.lenB;intro x j j1 j2 hx hall;show(AYT a.2 (psn n k) (hAt H (psn n k))).getD x 0=_;rw[s2];by_cases hj:j=1;subst hj;rw[Ar5]at hx ⊢;rw[Ap5 hx];have h1:=hall 1 (by omega) (by omega);rw[Ar5]at h1;rw[Ap4 (by omega)];have e:∀ z,1≤z→k+1-z=k-(z-1):=fun z hz=>by omega
 rw[e j j1]at hx ⊢;refine h.near x (j-1) (by omega) (by omega) hx fun j' p1 p2 => ?_;have:=hall (j'+1) (by omega) (by omega);rw[e (j'+1) (by omega),Ar5]at this;exact this;intro k' h1 h2;by_cases e:k'=k;subst e;unfold twF;simp only;rw[Ap5 h1,Apu,List.getElem?_set,Ap5 rfl,Ap5 (by rw[h.lenM];exact hi)];simp only[AqK];apply Ark;intro x;unfold nxL;rw[Ar1,Arj];by_cases hx:x<hAt H (psn n k');rw[Ap5 hx];have hxl:(List.range (H.getD (psn n k') 0).toNat)[x]? = some x:=by rw[List.getElem?_range];exact hx
 rw[hxl];have hxB:a.2[x]? = some (a.2.getD x 0):=by rw[Apu,Apz (by omega)];rfl
 rw[hxB];obtain⟨k1,k2,k3,k4⟩:=X5 (H:=H) (h:=x) hp hi (by omega);simp only[ArK];generalize kst H n (psn n k') x=d at *;have hb:=AJk (k:=k') (j:=d) hp (by omega) k2;have:=h.near x d k1 (by omega) (by
  rw[hb];have:=(ho.hAt (ArU (psn n k'+d) hp)).2.2;omega) fun j' p1 p2=>by
  rw[AJk (k:=k') (j:=j') hp (by omega) (by omega)];have:=k4 j' p1 p2;have:=(ho.hAt (ArU (psn n k'+j') hp)).2.2;omega
 rw[this,hb];rw[Ap4 hx];have hxl:(List.range (H.getD (psn n k') 0).toNat)[x]? = none:=by rw[List.getElem?_eq_none];rw[AqH];unfold Go.Pev.Pl.hAt at hx;omega
 rw[hxl];rfl;have hne:psn n k≠psn n k':=by
  unfold psn;have e1:k % n=k-n:=by rw[AsR (by omega),Aqm (by omega)]
  have e2:k' % n=k'-n:=by rw[AsR (by omega),Aqm (by omega)]
  omega
 unfold twF;simp only;rw[Ap5 (by omega),Apu,Aq4 hne,← Apu];exact h.rows k' h1 (by omega)
theorem AjO{H:List Int}{n:Nat}(ho:HO H n):((List.range (2*n)).foldl (fun a k=>twF H n k a) (List.replicate n [],List.replicate 8 0)).1=NX H n:=by
 have hp:=ho.pos;have hT:=foldI (twF H n) (TI2 H n) (2*n) (List.replicate n [],List.replicate 8 0) (fun k a hk h=>h.step ho hk) ⟨by simp,by simp,fun h j j1 j2=>by omega,fun k' h1 h2=>by omega⟩;generalize (List.range (2*n)).foldl (fun a k=>twF H n k a) (List.replicate n [],List.replicate 8 0)=a at *;have hlen:=hT.lenM;refine Ha ([]:List Int) ?_ fun i hi => ?_;unfold NX;rw[Aqk,AqH];exact hlen;have hi':i<n:=by omega
 have:=hT.rows (2*n-1-i) (by omega) (by omega);have e:psn n (2*n-1-i)=i:=by unfold psn;rw[AsR (by omega),Aqm (by omega)];omega
 rw[e]at this;rw[this];unfold NX;rw[Apu,Arj,List.getElem?_range hi'];rfl
theorem Age(x:Int):AEe (x,())=some (decide (1≤x∧x≤8),()):=by rw[ABZ,Wg,Ao,Ao];by_cases h1:1≤x;by_cases h2:x≤8<;>simp[h1,h2];simp[h1]
theorem VL{H:List Int}{n:Nat}(ho:HO H n):Hb (H,())=some (false,()):=by
 have hl:=ho.len;have ht:=ho.top
 have e:=AnC (step:=Dq) (fun k=>(H,(n:Int),(k:Int),())) n (.inr (.inl ())) (by omega)
  (fun k hk=>by
   obtain⟨a1,a2,a3⟩:=ho.at hk
   unfold Dq
   dsimp only
   rw[AN,Apr hk]
   simp only[a3,Age]
   rw[Apr (show 1≤H.getD k 0∧H.getD k 0≤8 from⟨a1,a2⟩),AO (by omega)]
   rfl)
  (by unfold Dq;dsimp only;rw[AN,Apo (by omega)])
 rw[LY,Ik,MJ,Je,AK,hl];have e':AL Dq many (H,(n:Int),(0:Int),())=_:=e;simp only[e',Ao];rfl
theorem AIa{toks H:List Int}{n:Nat}(hr:Rt toks)(hn:toks.length=n)(ho:HO H n):Vs (toks,H,())=some (toks,H,NX H n,0,()):=by
 have ht:=ho.top;have hp:=ho.pos;have hl:=ho.len;have hd:Ly (toks,())=some (true,()):=by rw[Ki];simp[hr]
 rw[Wh,Rk];simp only[AK,hn,hl,As];rw[Apo (by omega)];simp only[Apy,Apx,hd,VL ho,PG (show toks.length≤4294967296 by omega),PG (show H.length≤4294967296 by omega)];have hfi:Bq (n:Int)=true:=(Hy _).2 (by omega);rw[hfi,Ea,Apr (Ap1 n),MZ,AhW,AhW,ABO (by omega)];simp only[Aqr]
 have e:=CC (step:=H9) (fun k (a:TS)=>(H,(n:Int),toks,H,a.1,a.2,((2*n:Nat):Int),(k:Int),())) (List.range (2*n)) (fun k a=>.inl (twF H n k a)) (fun a=>.inl (toks,H,a.1,())) (fun k a=>a.1.length=n∧a.2.length=8) (by rw[AqH];omega)
  (fun k x a hk hx ha=>by
   refine⟨fun m' h' => ?_,fun r h'=>(by cases h')⟩
   cases h'
   obtain⟨rfl,hkm⟩:=AFF hx
   obtain⟨la,lb⟩:=ha
   have hi:=Aej (k:=x) hp
   obtain⟨q1,q2,q3⟩:=ho.hAt hi
   have hi3:=(ho.at hi).2.2
   constructor
   ·unfold H9
    dsimp only
    rw[AN,Apr hkm,HR hp]
    have hm:x % n<n:=ArU _ hp
    have hw:IntKind.wrap .i64 ((IntKind.wrap .i64 ((n:Int)-(1:Int)))-((x % n:Nat):Int))=((psn n x:Nat):Int):=by
     rw[A8 (by omega),Df (by omega)]
     rfl
    simp only[hw,hi3,q3]
    rw[Ea]
    by_cases hnk:n≤x
    ·rw[Apr hnk]
     have hsub:=OO (xs:=a.2) (h:=hAt H (psn n x)) (by omega)
     have hlen2:(a.2.take (hAt H (psn n x))).length=hAt H (psn n x):=by rw[Aqn];omega
     have hix:∃ z,idx a.1 ((psn n x:Nat):Int)=some z:=AoI (by omega)
     obtain⟨z,hz⟩:=hix
     simp only[hsub,AK,hlen2,MZ,Eo,ArY,PG (show(a.2.take (hAt H (psn n x))).length≤4294967296 by omega),hz,AGN]
     rw[AmT H (n:Int) toks H _ a.2 lb (psn n x) _ _ _ q2]
     simp only
     rw[AO (by omega)]
     unfold twF
     rw[Ap5 hnk]
     rfl
    ·rw[Apo hnk]
     simp only
     rw[AmT H (n:Int) toks H _ a.2 lb (psn n x) _ _ _ q2]
     simp only
     rw[AO (by omega)]
     unfold twF
     rw[Ap4 hnk]
   ·obtain⟨s1,_⟩:=ABy a.2 (psn n x) (hAt H (psn n x)) (by omega)
    refine⟨?_,s1.trans lb⟩
    unfold twF
    simp only
    split
    ·rw[Ard];exact la
    ·exact la)
  (fun a _=>by
   rw[AqH]
   unfold H9
   dsimp only
   rw[AN,Apo (by omega)]) (List.replicate n [],List.replicate 8 0) ⟨by simp,by simp⟩
 have e':AL H9 many (H,(n:Int),toks,H,List.replicate n ([]:List Int),List.replicate 8 (0:Int),((2*n:Nat):Int),(0:Int),())=_:=e;simp only[e'];rw[BD (fun(k:Nat) (a:TS)=>twF H n k a),AjO ho]
end Go.Pev.Pl
end
section
namespace Go.Pev.Pl
theorem Aop(H:List Int)(n:Nat):(NX H n).length=n:=by unfold NX;simp
theorem Aoo{H:List Int}{n:Nat}(ho:HO H n){x:List Int}(hx:x∈NX H n):x.length≤8:=by unfold NX at hx;obtain⟨i,hi,rfl⟩:=AqU.1 hx;rw[Aqi]at hi;have:=ho.hAt hi;unfold nxL;rw[Aqk,AqH];unfold hAt at this;omega
theorem AJK{toks H:List Int}{n:Nat}(hn:toks.length=n)(ho:HO H n):AFB ((toks,(H,(NX H n,()))),(toks,(H,(NX H n,()))),())=some (true,()):=by have ht:=ho.top;have hl:=ho.len;have h1:=Ou toks toks (by omega);have h2:=Ou H H (by omega);have h3:=Tf (NX H n) (NX H n) (by rw[Aop];omega) (fun x hx=>by have:=Aoo ho hx;omega);rw[Apr rfl]at h1 h2 h3;rw[AB3,XI];simp only[h1,h2,h3]
structure WO(w:List Int)(n:Nat):Prop where
 len:w.length=n
 rng:∀ x∈w,0≤x∧x≤1
def pre(w:List Int):Nat→Int
 |0=>0
 |j+1=>pre w j+w.getD j 0
end Go.Pev.Pl
end
section
namespace Go.Pev.Pl
section
variable {toks H:List Int} {n:Nat} {bs:List Bool}
end
section
variable {N:Nat} {ts:List Tie} {v k:Int} {tks:List Int} {ofm:List (Int×Int)} {outm:RM} {s:List Int}
noncomputable def hL(s tks:List Int):List Int:=tks.map (htF s)
end
section
variable {n:Int} {ts:List Tie} {v k e:Int}
end
theorem Am4{s:List Int}(h:wfD (.slice (.int .u32)) s):U32 s:=by intro x hx;have:=h;simp only[wfD]at this;have:=this.2 x hx;exact this
end Go.Pev.Pl
end
section
namespace Go.Pev.Pl
theorem AYS(n:Int):AUh (n,())=some (decide (sh n),()):=by rw[AI0,AE0,Ac2,Ad (by omega),As];by_cases h:sh n;rw[Apr h,Apr (show n=n % 65536 by unfold sh at h;omega)];rw[Apo h,Apo (show ¬ n=n % 65536 by unfold sh at h;omega)]
theorem TH(n:Int):NJ (n,())=some (decide (sh n),()):=by rw[W8,Rs,Ao,Ao];unfold sh;by_cases h:0≤n;rw[Apr h];simp[h];rw[Apo h];simp[h]
theorem Rj{n:Int}(h:sh n):ABX (n,())=some (tw n,()):=by rw[AIX,AEc];simp only[AnZ h,AnL h,wrap_u8];obtain⟨h1,h2⟩:=h;rw[show n/256 % 256=n/256 by omega,show n % 256 % 256=n % 256 by omega];rfl
end Go.Pev.Pl
end
section
namespace Go.Pev.Pl
theorem AK7(xs:List Int)(hs:xs.length<9223372036854775808):GZ (xs,())=some (!decide (∀ x∈xs,sh x),()):=by
 rw[KG,HG,LW,Ie]
 have e:=N6 (step:=DQ) (fun i=>(xs,AH xs,(i:Int),())) xs (fun x => !decide (sh x)) (fun i=>.inl ((i:Int),())) (.inr (.inl ())) hs
  (fun i x hi hx=>by
   rw[DQ,AK,AN,Apr hi]
   simp only[Aa hx,AYS]
   rw[AO (by omega)]
   by_cases h:sh x
   ·simp[h]
   ·simp[h])
  (by rw[DQ,AK,AN,Apo (by omega)])
 have e':AL DQ many (xs,AH xs,(0:Int),())=_:=e;rw[e'];have hany:(xs.any fun x => !decide (sh x)) = !decide (∀ x∈xs,sh x):=by rw[AsL];simp
 rw[hany];generalize (!decide (∀ x∈xs,sh x))=b;cases b<;>simp[Ao]
theorem AE2{xs:List Int}(hs:xs.length<1000000)(hx:∀ x∈xs,sh x)(e:Int):AL Fk many ([e],xs,(AH xs),(0:Int),())=some (.inl (e::xs.flatMap tw,())):=by
 have g:=CC (step:=Fk) (fun i (a:List Int)=>(a,xs,AH xs,(i:Int),())) xs (fun x a=>.inl (a++tw x)) (fun a=>.inl (a,())) (fun i a=>a.length=1+2*i) (by omega)
  (fun i x a hi hxi ha=>by
   refine⟨fun m' h' => ?_,fun r h'=>by cases h'⟩
   cases h'
   have hsx:=hx x (Ap0 hxi)
   unfold sh at hsx
   rw[Fk]
   simp only[AK]
   rw[AN,Apr hi]
   simp only[Aa hxi,AC7 hxi,Ape,wrap_u8]
   rw[show x/256 % 256=x/256 by omega,A7 (by simp;omega),AO (by omega)]
   exact⟨rfl,by rw[Ap3,ha];simp[tw];omega⟩)
  (fun a _=>by rw[Fk,AK,AN,Apo (by omega)]) [e] rfl
 have g':AL Fk many ([e],xs,AH xs,(0:Int),())=_:=g;rw[g',BD,AhI];rfl
theorem AI3(r:Res)(hs:r.2.2.1.length<65536):WA (r,())=some (AbB r):=by
 obtain⟨e,c,l,u⟩:=r;simp only at hs;rw[W9,Ru];simp only[AK];rw[ASn _ (by simp) (by simp;omega)];simp only[wrap_u8,Aqy,List.flatten_nil,Aqv];rw[Ad (by omega),As];unfold AbB;by_cases h1:0≤e∧e≤255;rw[Apr (show e=e % 256 by omega)];simp only[Apx];rw[AK7 _ (by simp;omega)];simp only[];by_cases h2:∀ x∈[c,(l.length:Int)]++l,sh x;rw[Apr h2,Ap5 (show val (e,c,l,u)from⟨h1,h2 c (by simp),h2 _ (by simp),fun x hx=>h2 x (by simp[hx])⟩)];simp only[Apx];have g:=AE2 (xs:=[c,(l.length:Int)]++l) (by simp;omega) h2 (e % 256);simp only[AK]at g;rw[g,show e % 256=e by omega];rfl;rw[Apo h2,Ap4 (show ¬ val (e,c,l,u)from fun h=>h2 fun x hx=>by simp only[AqJ,AqI,Apv]at hx;rcases hx with rfl|rfl|hx;exact h.2.1;exact h.2.2.1;exact h.2.2.2 x hx)]
 rfl;rw[Apo (show ¬ e=e % 256 by omega),Ap4 (show ¬ val (e,c,l,u)from fun h=>h1 h.1)];rfl
theorem AAh{xs:List Int}(hs:xs.length<1000000)(a:List Int)(ha:a.length=5)(p q:Int):
  AL Du many (p,q,xs,a,(0:Int),())=some (if ∀ x∈xs,sh x then .inr (.inl (a++xs.flatMap tw,()))else .inl (1,())):=by
 have g:=CC (step:=Du) (fun i (a:List Int)=>(p,q,xs,a,(i:Int),())) xs (fun x a=>if sh x then .inl (a++tw x)else .inr (.inl (1,()))) (fun a=>.inr (.inl (a,()))) (fun i a=>a.length=5+2*i) (by omega)
  (fun i x a hi hxi ha=>by
   have step:Du (p,q,xs,a,(i:Int),())=if sh x then some (.inl (p,q,xs,a++tw x,((i+1:Nat):Int),()))else some (.inr (.inl (1,()))):=by
    rw[Du]
    simp only[AK]
    rw[AN,Apr hi]
    simp only[Aa hxi,TH]
    by_cases h:sh x
    ·rw[Apr h,Ap5 h]
     simp only[Apx,Rj h]
     rw[A7 (by simp[tw];omega),AO (by omega)]
     rfl
    ·rw[Apo h,Ap4 h]
     rfl
   by_cases h:sh x
   ·rw[Ap5 h]at step ⊢
    refine⟨fun m' h' => ?_,fun r h'=>by cases h'⟩
    cases h'
    exact⟨step,by rw[Ap3,ha];simp[tw];omega⟩
   ·rw[Ap4 h]at step ⊢
    refine⟨fun m' h'=>(by cases h'),fun r h' => ?_⟩
    cases h'
    exact step)
  (fun a _=>by rw[Du,AK,AN,Apo (by omega)]) a (by omega)
 have g':AL Du many (p,q,xs,a,(0:Int),())=_:=g;rw[g'];congr 1;clear g g' hs ha;induction xs generalizing a with
  |nil=>simp[walk]
  |cons x xs ih=>rw[walk];by_cases h:sh x;rw[Ap5 h];simp only[];rw[ih];simp[h];rw[Ap4 h];simp[h]
theorem AGM(r:Res)(hs:r.2.2.1.length<65536):Qz (r,())=some (AbB r):=by
 obtain⟨e,c,l,u⟩:=r;simp only at hs;rw[Ts,PB];simp only[AK,TH];rw[Ab,Ab];unfold AbB;by_cases h1:0≤e∧e≤255;rw[Apo (show ¬ e<0 by omega),Apo (show ¬ 255<e by omega)];simp only[];by_cases h2:sh c;rw[Apr h2];simp only[Apx];have h3:sh (l.length:Int):=by unfold sh;omega
 rw[Apr h3];simp only[Apx,Rj h2,Rj h3];rw[A7 (by simp[tw]),A7 (by simp[tw,Ai])];simp only[wrap_u8];rw[AAh (by omega) _ (by simp[tw,Ai])];by_cases h4:∀ x∈l,sh x;rw[Ap5 h4,Ap5 (show val (e,c,l,u)from⟨h1,h2,h3,h4⟩),show e % 256=e by omega];simp[enc,Ai];rw[Ap4 h4,Ap4 (show ¬ val (e,c,l,u)from fun h=>h4 h.2.2.2)];rw[Apo h2,Ap4 (show ¬ val (e,c,l,u)from fun h=>h2 h.2.1)];rfl;rw[Ap4 (show ¬ val (e,c,l,u)from fun h=>h1 h.1)];by_cases h0:e<0;rw[Apr h0];rw[Apo h0,Apr (by omega)]
end Go.Pev.Pl
end
section
namespace Go.Pev.Pl
abbrev AMk:=(Int×(List (Int×Int×Int×Bool×Unit))×Unit)×Int×Int×Unit
abbrev Tw8:=(List Int)×(List Int)×(List (List Int))×Unit
def AL7(n:Int):Bool:=decide (0≤n)&&decide (n≤1099511627776)
theorem AF5(n:Int):MN (n,())=some (AL7 n,()):=by rw[Tk,O6,Ao,Ao,AL7];cases decide (0≤n)<;>rfl
theorem AAm(n:Int):KE (n,())=some (AL7 n,()):=by rw[Q5,Md,Ao,Ao,AL7];cases decide (0≤n)<;>rfl
structure SR(N:Nat)(ts:List Tie)(b c:Int):Prop where
 g:RG2 N ts
 hb:AL7 b=true
 hc:AL7 c=true
theorem Ade(n:Int)(ts:List Tie)(b c:Int)(hl:ts.length<4611686018427387904):
  (HA (((n,(ts,())),(b,(c,()))),())=some (false,())∧Pt (((n,(ts,())),(b,(c,()))),())=some (false,())) ∨
  ∃ N:Nat,n=(N:Int)∧SR N ts b c∧HA (((n,(ts,())),(b,(c,()))),())=some (true,())∧Pt (((n,(ts,())),(b,(c,()))),())=some (true,()):=by
 rw[ACm,X9,XP,R0];simp only[AF5,AAm];rcases AY0 n ts hl with⟨r1,r2⟩|⟨N,rfl,h⟩
 left;simp only[r1,r2];trivial;simp only[h.r21,h.lr];cases hb:AL7 b;left;trivial;cases hc:AL7 c;left;trivial;right;exact⟨N,rfl,⟨h,hb,hc⟩,rfl,rfl⟩
noncomputable def tw8(s:List Int)(tks:List Int):Tw8:=(tks,(tks.map (htF s),(NX (tks.map (htF s)) tks.length,())))
theorem ho8{s:List Int}(hs:U32 s){n:Int}{tks:List Int}(h:RG n tks):HO (tks.map (htF s)) tks.length:=⟨by simp,by
 cases tks with
  |nil=>exact absurd rfl h.2.1
  |cons x xs=>simp,h.1.1,fun x hx=>by
 obtain⟨t,_,rfl⟩:=AqU.1 hx;exact AlO hs t⟩
theorem ABv{α β:Type}(f:α→β):∀ (xs:List α) (a:List β),xs.foldl (fun a x=>a++[f x]) a=a++xs.map f:=by
 intro xs;induction xs with
  |nil=>intro a;simp
  |cons x xs ih=>intro a;rw[AqY,ih];simp
section
variable {s:List Int} {n:Int} {zs:List (List Int)}
theorem AFq(hs:U32 s)(hl:zs.length≤64)(hz:∀ z∈zs,RG n z):
  AL IY many (s,([]:List Tw8),zs,AH zs,(0:Int),())=some (.inl (zs.map (tw8 s),())):=by
 have e:=CC (step:=IY) (fun i (a:List Tw8)=>(s,a,zs,AH zs,(i:Int),())) zs (fun x a=>.inl (a++[tw8 s x])) (fun a=>.inl (a,())) (fun i a=>a.length≤i) (by omega)
  (fun i x a hi hx ha=>by
   refine⟨fun m' h' => ?_,fun r h'=>(by cases h')⟩
   cases h'
   have hr:=hz x (Ap0 hx)
   constructor
   ·rw[IY,AK,AN,Apr hi]
    simp only[Aa hx,Z4 hs x hr.1.1,AIa hr.1 rfl (ho8 hs hr)]
    rw[AO (by omega),A7 (by simp only[AK,Aqe];omega)]
    rfl
   ·simp;omega)
  (fun a _=>by rw[IY,AK,AN,Apo (by omega)]) [] (Ap1 _)
 rw[BD (fun(x:List Int) (a:List Tw8)=>a++[tw8 s x]),ABv]at e;exact e
theorem Z5(hs:U32 s)(hl:zs.length≤64)(hz:∀ z∈zs,RG n z)(m:Int):
  AL Gi many (s,m,zs,([]:List Tw8),(0:Int),())=some (.inl (zs.map (tw8 s),())):=by
 have e:=CC (step:=Gi) (fun i (a:List Tw8)=>(s,m,zs,a,(i:Int),())) zs (fun x a=>.inl (a++[tw8 s x])) (fun a=>.inl (a,())) (fun i a=>a.length≤i) (by omega)
  (fun i x a hi hx ha=>by
   refine⟨fun m' h' => ?_,fun r h'=>(by cases h')⟩
   cases h'
   have hr:=hz x (Ap0 hx)
   constructor
   ·rw[Gi,AK,AN,Apr hi]
    simp only[Aa hx,AAf hs x hr.1.1,AMS hr.1 rfl (ho8 hs hr)]
    rw[AO (by omega),A7 (by simp only[AK,Aqe];omega)]
    rfl
   ·simp;omega)
  (fun a _=>by rw[Gi,AK,AN,Apo (by omega)]) [] (Ap1 _)
 rw[BD (fun(x:List Int) (a:List Tw8)=>a++[tw8 s x]),ABv]at e;exact e
theorem XE(hs:U32 s)(hl:zs.length≤64)(hz:∀ z∈zs,RG n z):Pp (zs.map (tw8 s),zs.map (tw8 s),())=some (true,()):=by
 have e:=CC (step:=IG) (fun i (_:Unit)=>(zs.map (tw8 s),zs.map (tw8 s),(i:Int),())) zs (fun _ a=>.inl a) (fun _=>.inr (.inl ())) (fun _ _=>True) (by omega)
  (fun i x a hi hx _=>by
   refine⟨fun m' h' => ?_,fun r h'=>(by cases h')⟩
   cases h'
   have hr:=hz x (Ap0 hx)
   have hx':(zs.map (tw8 s))[i]? = some (tw8 s x):=by rw[Arj,hx];rfl
   refine⟨?_,trivial⟩
   have h4:=AJK (toks:=x) rfl (ho8 hs hr)
   rw[IG,AK,Aqk,AN,Apr hi]
   simp only[Aa hx',tw8,h4,Apx]
   rw[AO (by omega)])
  (fun a _=>by rw[IG,AK,Aqk,AN,Apo (by omega)]) () trivial
 rw[BD (fun _ (a:Unit)=>a)]at e;have e':AL IG many (zs.map (tw8 s),zs.map (tw8 s),(0:Int),())=_:=e;rw[XF,Rx];simp only[Gq,Apx,e']
end
theorem FC.len{N:Nat}{ts:List Tie}(h:RG2 N ts){zs:List (List Int)}{k:Int}(hF:FC (N:Int) zs (trk ts k)):zs.length≤64:=by have h1:=hF.count h.h1 h.hN (by have:=h.ht;unfold trk;simp only[Aqk];exact Nat.lt_of_le_of_lt (List.length_filter_le _ _) (by omega)) (h.inK k);have h2:=ApK N (trk ts k);have:=h.hN;omega
theorem AId{s:List Int}(hs:U32 s)(n:Int)(ts:List Tie)(b c:Int)(hl:ts.length<4611686018427387904):
  ∃ (l:List Tw8) (e:Int),K4 (((n,(ts,())),(b,(c,()))),s,())=some (l,e,())∧Pb (((n,(ts,())),(b,(c,()))),s,())=some (l,e,())∧Pp (l,l,())=some (true,()):=by
 rcases Ade n ts b c hl with⟨r1,r2⟩|⟨N,rfl,h,r1,r2⟩
 refine⟨[],1,?_,?_,XE (s:=s) (n:=0) (zs:=[]) hs (by simp) (by simp)⟩;rw[On,NZ];simp only[r1,Aqb];rw[Lp,Kd];simp only[r2,Aqb];obtain⟨zs,e1,e2,hF⟩:=h.g.both 0;have hz:=hF.fr.rg;have hlz:=FC.len h.g hF;refine⟨zs.map (tw8 s),0,?_,?_,XE hs hlz hz⟩;rw[On,NZ];simp only[r1,Apx,e1,AFq hs hlz hz];rw[Lp,Kd];simp only[r2,Apx,e2,Z5 hs hlz hz]
end Go.Pev.Pl
end
section
namespace Go.Pev.Pl
abbrev RH:=Int×Int×(List Int)×Unit
abbrev RR8:=(Int×Unit)⊕(List Int×Unit)⊕Unit
noncomputable def AAA(x:RH)(a:List Int):List Int⊕RR8:=if val x then .inl (a++enc x)else .inr (.inl (1,()))
noncomputable def AeZ(l:List RH)(a:List Int):RR8:=walk AAA (fun a=>.inr (.inl (a,()))) l a
theorem AP5:∀ (l:List RH) (a:List Int),AeZ l a = .inl (1,())∨∃ b,AeZ l a = .inr (.inl (b,())):=by
 intro l;induction l with
  |nil=>exact fun a=>.inr ⟨a,rfl⟩
  |cons x l ih=>intro a;unfold AeZ at *;rw[walk];unfold AAA;by_cases h:val x;rw[Ap5 h];exact ih _;rw[Ap4 h];exact .inl rfl
section
variable {l:List RH}
theorem AK3(hl:l.length≤10)(h:∀ x∈l,x.2.2.1.length≤100):AL Hv many (([]:List Int),l,AH l,(0:Int),())=some (AeZ l []):=by
 refine CC (step:=Hv) (fun i (a:List Int)=>(a,l,AH l,(i:Int),())) l AAA (fun a=>.inr (.inl (a,()))) (fun i a=>a.length≤205*i) (by omega)
  (fun i x a hi hx ha => ?_) (fun a _=>by rw[Hv,AK,AN,Apo (by omega)]) [] (Ap1 _)
 have hx1:=h x (Ap0 hx);have hv:=AI3 x (by omega);have hln:=AV7 x;obtain⟨x1,x2,x3,⟨⟩⟩:=x;simp only at hln hx1;have key:Hv (a,l,AH l,(i:Int),())=match AAA (x1,x2,x3,()) a with
   |.inl a'=>some (.inl (a',l,AH l,((i+1:Nat):Int),()))
   |.inr r=>some (.inr r):=by
  rw[Hv,AK,AN,Apr hi]
  simp only[Aa hx,hv]
  unfold AAA AbB
  by_cases hq:val (x1,x2,x3,())
  ·rw[Ap5 hq,Ap5 hq]
   simp only[Gq,Apx]
   rw[A7 (by simp only[AK];omega),AO (by omega)]
   rfl
  ·rw[Ap4 hq,Ap4 hq]
   rw[show ieq (1:Int) 0=false from Db _ _]
   rfl
 refine⟨fun a' h' => ?_,fun r h' => ?_⟩;rw[key,h'];refine⟨rfl,?_⟩;unfold AAA at h';split at h';cases h';rw[Ap3];omega;cases h';rw[key,h']
theorem AFK(hl:l.length≤10)(h:∀ x∈l,x.2.2.1.length≤100):AL Ft many (l,([]:List Int),(0:Int),())=some (AeZ l []):=by
 refine CC (step:=Ft) (fun i (a:List Int)=>(l,a,(i:Int),())) l AAA (fun a=>.inr (.inl (a,()))) (fun i a=>a.length≤205*i) (by omega)
  (fun i x a hi hx ha => ?_) (fun a _=>by rw[Ft,AK,AN,Apo (by omega)]) [] (Ap1 _)
 have hx1:=h x (Ap0 hx);have hv:=AGM x (by omega);have hln:=AV7 x;obtain⟨x1,x2,x3,⟨⟩⟩:=x;simp only at hln hx1;have key:Ft (l,a,(i:Int),())=match AAA (x1,x2,x3,()) a with
   |.inl a'=>some (.inl (l,a',((i+1:Nat):Int),()))
   |.inr r=>some (.inr r):=by
  rw[Ft,AK,AN,Apr hi]
  simp only[Aa hx,hv]
  unfold AAA AbB
  by_cases hq:val (x1,x2,x3,())
  ·rw[Ap5 hq,Ap5 hq]
   simp only[Gq,Apx]
   rw[A7 (by simp only[AK];omega),AO (by omega)]
   rfl
  ·rw[Ap4 hq,Ap4 hq]
   rw[show ieq (1:Int) 0=false from Db _ _]
   rfl
 refine⟨fun a' h' => ?_,fun r h' => ?_⟩;rw[key,h'];refine⟨rfl,?_⟩;unfold AAA at h';split at h';cases h';rw[Ap3];omega;cases h';rw[key,h']
theorem AP3(hl:l.length≤10)(h:∀ x∈l,x.2.2.1.length≤100):∃ (b:List Int) (e:Int),Oq (l,())=some (b,e,())∧WC (l,())=some (b,e,()):=by
 rw[ACn,YA,XS,R4];simp only[AK3 hl h,AFK hl h];rcases AP5 l []with e|⟨b,e⟩
 rw[e];exact⟨_,_,rfl,rfl⟩;rw[e];exact⟨_,_,rfl,rfl⟩
end
theorem AYU(x:List Int):seq? x x=true:=by rw[seq_eq];simp[Ad6]
theorem ALF(n:Int)(ts:List Tie)(b c:Int):Qm (((n,(ts,())),(b,(c,()))),((0:Int),((0:Int),(((0:Int),((0:Int),(([]:List (List Int)),()))),()))),())=some (true,())∨(Qm (((n,(ts,())),(b,(c,()))),((0:Int),((0:Int),(((0:Int),((0:Int),(([]:List (List Int)),()))),()))),())=some (false,())∧ts.length≤30):=by rw[YR,Sc];simp only[AK,Ab];by_cases h1:(30:Int)<ts.length;rw[Apr h1];exact .inl rfl;rw[Apo h1];by_cases h2:(12:Int)<n;rw[Apr h2];exact .inl rfl;rw[Apo h2];exact .inr ⟨rfl,by omega⟩
def ACg(x:RH):Bool:=decide ((100:Int)<x.2.2.1.length)
theorem YC(ha:RE ()=some (true,()))(g:AMk)(s:List Int)(l:List RH){P Q:Prop}(_:P)(h1:wfD (.slice (.int .u32)) s)(_:Q):C6 (g,s,l,())=some (true,()):=by
 have hs:=Am4 h1;obtain⟨⟨n,ts,⟨⟩⟩,b,c,⟨⟩⟩:=g;rw[MG,Jc];simp only[ha,Apx];rcases ALF n ts b c with g1|⟨g1,g2⟩
 simp only[g1];simp only[g1,AK];by_cases hl:(10:Int)<l.length;rw[Ab,Apr hl];rw[Ab,Apo hl]
 have e:=CC (step:=C0) (fun i (_:Unit)=>(s,l,n,ts,b,c,(i:Int),())) l (fun x (_:Unit)=>if ACg x=true then .inr (.inl (true,()))else .inl ()) (fun _=>.inr (.inl (s,l,n,ts,b,c,()))) (fun _ _=>True) (by omega)
  (fun i x a hi hx _=>by
   have key:C0 (s,l,n,ts,b,c,(i:Int),())=if ACg x=true then some (.inr (.inl (true,())))else some (.inl (s,l,n,ts,b,c,((i+1:Nat):Int),())):=by
    rw[C0,AK,AN,Apr hi]
    simp only[Aa hx,AK,Ab]
    rw[AO (by omega)]
    unfold ACg
    cases decide ((100:Int)<x.2.2.1.length)<;>rfl
   refine⟨fun m' h' => ?_,fun r h' => ?_⟩
   ·rw[key]
    split at h'
    ·cases h'
    ·rename_i q
     rw[Ap4 q];exact⟨rfl,trivial⟩
   ·rw[key]
    split at h'
    ·rename_i q
     cases h'
     rw[Ap5 q]
    ·cases h')
  (fun a _=>by rw[C0,AK,AN,Apo (by omega)]) () trivial
 rw[AXm]at e;have e':AL C0 many (s,l,n,ts,b,c,(0:Int),())=_:=e;simp only[e'];by_cases hg:l.any ACg=true;rw[Ap5 hg];rw[Ap4 hg];have hx:∀ x∈l,x.2.2.1.length≤100:=by intro x hx;have:¬ ACg x=true:=fun q=>hg (Arw.2 ⟨x,hx,q⟩);unfold ACg at this;rw[Arc]at this;omega
 obtain⟨t,e1,p1,p2,p3⟩:=AId hs n ts b c (by omega);obtain⟨r,e2,q1,q2⟩:=AP3 (l:=l) (by omega) hx;simp only[p1,p2,p3,q1,q2,Gq,AYU]
end Go.Pev.Pl
end
section
namespace Go.Pev.Pl
abbrev Bt8:=Int×(List (Int×Int×Unit))×(List (Int×Int×Int×Unit))×Unit
abbrev Wy8:=Int×Int×(Int×Int×(List (List Int))×Unit)×Unit
theorem IV{α β:Type}(f:Lk→α→β){a:α}{v:β}(h:f idI a=v):f lockI a=v:=by rw[X0];exact h
inductive Rn(w:Wy8):AMk→List Bt8→AMk→List RH→Prop
 |nil (s:AMk):Rn w s [] s []
 |cons {s a t:AMk} {x:Bt8} {r:RH} {xs:List Bt8} {l:List RH}:EI (s,x,w,())=some (a,r,())→Rn w a xs t l→Rn w s (x::xs) t (r::l)
theorem Rn.iter{w:Wy8}{s t:AMk}{bs:List Bt8}{l:List RH}(h:Rn w s bs t l):∀ (pre:List Bt8) (acc:List RH) (e:Int) (m:Nat),bs.length<m→acc.length+bs.length<1000000→pre.length+bs.length<1000000 →
  AU QQ m (s.1.1,s.1.2.1,s.2.1,s.2.2.1,w.1,w.2.1,w.2.2.1.1,w.2.2.1.2.1,w.2.2.1.2.2.1,(0:Int),(0:Int),(0:Int),e,acc,pre++bs,AH (pre++bs),(pre.length:Int),())=some (.inl (t.1.1,t.1.2.1,t.2.1,t.2.2.1,0,0,0,e,acc++l,())):=by
 induction h with
  |nil s=>
   intro pre acc e m hm _ _;obtain⟨k,rfl⟩:∃ k,m=k+1:=⟨m-1,by simp only[Ap8]at hm;omega⟩
   rw[AU,QQ,AK,AN,Apo (by simp),Aqv,Aqv]
  |@cons s a t x r xs l ht _ ih=>
   intro pre acc e m hm ha hp;simp only[Apw]at hm ha hp;obtain⟨k,rfl⟩:∃ k,m=k+1:=⟨m-1,by omega⟩
   have hx:(pre++x::xs)[pre.length]? = some x:=by simp
   have h2:=ih (pre++[x]) (acc++[r]) e k (by omega) (by simp only[Ap3,Aqe];omega) (by simp only[Ap3,Aqe];omega);simp only[ArV,ArS,Ap3,Aqe]at h2;obtain⟨⟨s1,s2,⟨⟩⟩,s3,s4,⟨⟩⟩:=s;obtain⟨w1,w2,⟨w3,w4,w5,⟨⟩⟩,⟨⟩⟩:=w;obtain⟨x1,x2,x3,⟨⟩⟩:=x;obtain⟨r1,r2,r3,⟨⟩⟩:=r;rw[AU,QQ,AK,AN,Apr (by simp)];simp only[Aa hx,ht];rw[A7 (by simp only[AK,Aqe];omega),AO (by omega)];simp only[DG,← AK];exact h2
theorem Rn.run{w:Wy8}{s t:AMk}{bs:List Bt8}{l:List RH}(h:Rn w s bs t l)(hr:HA (s,())=some (true,())){b:List Int}{p e:Int}(hs:KX (b,())=some (bs,p,e,()))(hb:bs.length<900000)(hl:l.length<900000):
  AgN (s,b,w,())=some (t,l++(if e=0 then []else [(e,((0:Int),([],())))]),e,()):=by have h2:=h.iter [] [] e many (by simp only[many];omega) (by simp only[Ap8];omega) (by simp only[Ap8];omega);rw[AVl,ARo];obtain⟨⟨s1,s2,⟨⟩⟩,s3,s4,⟨⟩⟩:=s;simp only[hr,Apx,hs];rw[At];have h3:AU QQ many (s1,s2,s3,s4,w.1,w.2.1,w.2.2.1.1,w.2.2.1.2.1,w.2.2.1.2.2.1,(0:Int),(0:Int),(0:Int),e,([]:List RH),bs,AH bs,(0:Int),())=_:=h2;simp only[h3,AqI];rw[As];by_cases he:e=0;rw[Apr he,Ap5 he,Aqv];rfl;rw[Apo he,Ap4 he];simp only[Aqb];rw[A7 (by simp only[AK,Aqe];omega)];rfl
end Go.Pev.Pl
end
section
namespace Go.Pev.Pl
theorem AiY:YN ((4:Int),())=some (((4,([],())),(0,(0,()))),0,()):=IV (fun i=>@YN i) (by kernel_rfl)
theorem ApR:KX (([(1:Int),(0:Int),(2:Int),(0:Int),(3:Int),(0:Int),(1:Int),(0:Int),(0:Int),(0:Int),(1:Int),(3:Int),(0:Int),(2:Int),(3:Int),(0:Int),(3:Int),(0:Int),(0:Int),(4:Int),(0:Int),(0:Int),(0:Int),(0:Int),(2:Int),(0:Int),(1:Int),(0:Int),(0:Int),(0:Int),(1:Int),(3:Int),(0:Int),(1:Int),(2:Int),(0:Int),(3:Int),(0:Int),(0:Int),(9:Int)]:List Int),())=some ([(1,([(3,(1,())),(0,(1,()))],([],()))),(3,([],([(3,(3,(0,()))),(4,(0,(0,())))],()))),(2,([(0,(1,()))],([],()))),(3,([],([(2,(3,(0,())))],())))],(39,(8,()))):=IV (fun i=>@KX i) (by kernel_rfl)
theorem ApQ:EI ((((4:Int),(([]:List (Int×Int×Int×Bool×Unit)),())),((0:Int),((0:Int),()))),((1:Int),(([(3,(1,())),(0,(1,()))]:List (Int×Int×Unit)),(([]:List (Int×Int×Int×Unit)),()))),((8:Int),((2:Int),(((1:Int),((2:Int),(([[(0:Int),(0:Int)],[(1:Int),(0:Int)]]:List (List Int)),()))),()))),())=some (((4,([(0,(1,(0,(true,())))),(1,(3,(0,(true,()))))],())),(1,(16,()))),((0,(2,([],()))),())):=IV (fun i=>@EI i) (by kernel_rfl)
theorem ApP:EI ((((4:Int),(([(0,(1,(0,(true,())))),(1,(3,(0,(true,()))))]:List (Int×Int×Int×Bool×Unit)),())),((1:Int),((16:Int),()))),((3:Int),(([]:List (Int×Int×Unit)),(([(3,(3,(0,()))),(4,(0,(0,())))]:List (Int×Int×Int×Unit)),()))),((8:Int),((2:Int),(((1:Int),((2:Int),(([[(0:Int),(0:Int)],[(1:Int),(0:Int)]]:List (List Int)),()))),()))),())=some (((4,([(0,(1,(0,(true,())))),(1,(3,(0,(true,()))))],())),(2,(19,()))),((0,(0,([3,2],()))),())):=IV (fun i=>@EI i) (by kernel_rfl)
theorem ApO:EI ((((4:Int),(([(0,(1,(0,(true,())))),(1,(3,(0,(true,()))))]:List (Int×Int×Int×Bool×Unit)),())),((2:Int),((19:Int),()))),((2:Int),(([(0,(1,()))]:List (Int×Int×Unit)),(([]:List (Int×Int×Int×Unit)),()))),((8:Int),((2:Int),(((1:Int),((2:Int),(([[(0:Int),(0:Int)],[(1:Int),(0:Int)]]:List (List Int)),()))),()))),())=some (((4,([(1,(3,(0,(true,()))))],())),(3,(31,()))),((0,(1,([],()))),())):=IV (fun i=>@EI i) (by kernel_rfl)
theorem ApN:EI ((((4:Int),(([(1,(3,(0,(true,()))))]:List (Int×Int×Int×Bool×Unit)),())),((3:Int),((31:Int),()))),((3:Int),(([]:List (Int×Int×Unit)),(([(2,(3,(0,())))]:List (Int×Int×Int×Unit)),()))),((8:Int),((2:Int),(((1:Int),((2:Int),(([[(0:Int),(0:Int)],[(1:Int),(0:Int)]]:List (List Int)),()))),()))),())=some (((4,([(1,(3,(0,(true,()))))],())),(4,(32,()))),((0,(0,([1],()))),())):=IV (fun i=>@EI i) (by kernel_rfl)
theorem ApM:EI ((((4:Int),(([(1,(3,(0,(true,()))))]:List (Int×Int×Int×Bool×Unit)),())),((4:Int),((32:Int),()))),((2:Int),(([((4:Int),((0:Int),()))]:List (Int×Int×Unit)),(([]:List (Int×Int×Int×Unit)),()))),((8:Int),((2:Int),(((1:Int),((2:Int),(([[(0:Int),(0:Int)],[(1:Int),(0:Int)]]:List (List Int)),()))),()))),())=some (((4,([(1,(3,(0,(true,()))))],())),(4,(32,()))),((10,(0,([],()))),())):=IV (fun i=>@EI i) (by kernel_rfl)
theorem ApL:K4 ((((4:Int),(([(1,(3,(0,(true,()))))]:List (Int×Int×Int×Bool×Unit)),())),((4:Int),((32:Int),()))),([(1:Int),(2:Int)]:List Int),())=some ([([0],([1],([[0]],()))),([1,11,3,17],([2,2,2,2],([[1,1],[2,2],[3,3],[0,0]],()))),([2],([1],([[0]],())))],(0,())):=IV (fun i=>@K4 i) (by kernel_rfl)
theorem ApS:Oq (([(0,(2,([],()))),(0,(0,([3,2],()))),(0,(1,([],()))),(0,(0,([1],()))),(8,(0,([],())))]:List (Int×Int×(List Int)×Unit)),())=some ([0,0,2,0,0,0,0,0,0,2,0,3,0,2,0,0,1,0,0,0,0,0,0,1,0,1,8,0,0,0,0],(0,())):=IV (fun i=>@Oq i) (by kernel_rfl)
theorem ApT:Rn ((8:Int),((2:Int),(((1:Int),((2:Int),(([[(0:Int),(0:Int)],[(1:Int),(0:Int)]]:List (List Int)),()))),()))) (((4:Int),(([]:List (Int×Int×Int×Bool×Unit)),())),((0:Int),((0:Int),()))) ([((1:Int),(([(3,(1,())),(0,(1,()))]:List (Int×Int×Unit)),(([]:List (Int×Int×Int×Unit)),()))),((3:Int),(([]:List (Int×Int×Unit)),(([(3,(3,(0,()))),(4,(0,(0,())))]:List (Int×Int×Int×Unit)),()))),((2:Int),(([(0,(1,()))]:List (Int×Int×Unit)),(([]:List (Int×Int×Int×Unit)),()))),((3:Int),(([]:List (Int×Int×Unit)),(([(2,(3,(0,())))]:List (Int×Int×Int×Unit)),())))]:List (Int×(List (Int×Int×Unit))×(List (Int×Int×Int×Unit))×Unit)) (((4:Int),(([(1,(3,(0,(true,()))))]:List (Int×Int×Int×Bool×Unit)),())),((4:Int),((32:Int),()))) [(0,(2,([],()))),(0,(0,([3,2],()))),(0,(1,([],()))),(0,(0,([1],())))]:=.cons ApQ (.cons ApP (.cons ApO (.cons ApN (.nil _))))
theorem ApV:HA ((((4:Int),(([]:List (Int×Int×Int×Bool×Unit)),())),((0:Int),((0:Int),()))),())=some (true,()):=IV (fun i=>@HA i) (by kernel_rfl)
theorem Aoj:AgN ((((4:Int),(([]:List (Int×Int×Int×Bool×Unit)),())),((0:Int),((0:Int),()))),([(1:Int),(0:Int),(2:Int),(0:Int),(3:Int),(0:Int),(1:Int),(0:Int),(0:Int),(0:Int),(1:Int),(3:Int),(0:Int),(2:Int),(3:Int),(0:Int),(3:Int),(0:Int),(0:Int),(4:Int),(0:Int),(0:Int),(0:Int),(0:Int),(2:Int),(0:Int),(1:Int),(0:Int),(0:Int),(0:Int),(1:Int),(3:Int),(0:Int),(1:Int),(2:Int),(0:Int),(3:Int),(0:Int),(0:Int),(9:Int)]:List Int),((8:Int),((2:Int),(((1:Int),((2:Int),(([[(0:Int),(0:Int)],[(1:Int),(0:Int)]]:List (List Int)),()))),()))),())=some ((((4:Int),(([(1,(3,(0,(true,()))))]:List (Int×Int×Int×Bool×Unit)),())),((4:Int),((32:Int),()))),[(0,(2,([],()))),(0,(0,([3,2],()))),(0,(1,([],()))),(0,(0,([1],()))),(8,(0,([],())))],8,()):=ApT.run ApV ApR (AqT rfl) (AqT rfl)
theorem Aol:AMe (([(0,(2,([],()))),(0,(0,([3,2],()))),(0,(1,([],()))),(0,(0,([1],()))),(8,(0,([],())))]:List (Int×Int×(List Int)×Unit)),([(0,(2,([],()))),(0,(0,([3,2],()))),(0,(1,([],()))),(0,(0,([1],()))),(8,(0,([],())))]:List (Int×Int×(List Int)×Unit)),())=some (true,()):=IV (fun i=>@AMe i) (by kernel_rfl)
theorem Aok:HA ((((4:Int),(([(1,(3,(0,(true,()))))]:List (Int×Int×Int×Bool×Unit)),())),((4:Int),((32:Int),()))),())=some (true,()):=IV (fun i=>@HA i) (by kernel_rfl)
theorem ApU:AK2 ((((4:Int),(([(1,(3,(0,(true,()))))]:List (Int×Int×Int×Bool×Unit)),())),((4:Int),((32:Int),()))),(((4:Int),(([(1,(3,(0,(true,()))))]:List (Int×Int×Int×Bool×Unit)),())),((4:Int),((32:Int),()))),())=some (true,()):=IV (fun i=>@AK2 i) (by kernel_rfl)
theorem Aoh:Ry (((10:Int),((0:Int),(([]:List Int),()))),((10:Int),((0:Int),(([]:List Int),()))),())=some (true,()):=IV (fun i=>@Ry i) (by kernel_rfl)
theorem Aoi:XH (((4:Int),(([(1,(3,(0,(true,()))))]:List (Int×Int×Int×Bool×Unit)),())),((4:Int),(([(1,(3,(0,(true,()))))]:List (Int×Int×Int×Bool×Unit)),())),())=some (true,()):=IV (fun i=>@XH i) (by kernel_rfl)
theorem Aog:AIU ()=some (8,2,1,2,[[0,0],[1,0]],()):=by rw[AIT];rfl
theorem AG1:RE ()=some (true,()):=by rw[Y6,Sy];simp only[AiY,Aog,Aoj,ApL,ApS,Aol,Aok,Aoi,Db,Ab,AH];erw [ApM];simp only[ApU,Aoh];rfl
end Go.Pev.Pl
end
section
namespace Go.Pev.Pl
theorem SW(g:AMk)(s:List Int)(l:List RH){P Q:Prop}(h0:P)(h1:wfD (.slice (.int .u32)) s)(h2:Q):C6 (g,s,l,())=some (true,()):=YC AG1 g s l h0 h1 h2
end Go.Pev.Pl
end
section
namespace Go.Pev
open Go.Proofs
noncomputable section
abbrev ALx:Row:=⟨33,0,0,1,0,none,AP,[(.ret,AM)],AA,[],[]⟩
def UK[Lk]:Env:=ANr.ext 33 true true (AG 0 1 AP AM AA KE)
theorem Zw:AI Tryz.prog UK:=Row.AE ALx ANq Tryz.func33 Q5
abbrev AYw:Row:=⟨8,0,0,1,0,none,QR,[(.ret,AM)],AA,[],[]⟩
def ADi[Lk]:Env:=UK.ext 8 true true (AG 0 1 QR AM AA Pt)
theorem AHS:AI Tryz.prog ADi:=Row.AE AYw Zw Tryz.func8 XP
abbrev AO7:Row:=⟨17,0,0,2,0,none,Kc,[(.ret,Kb)],AQ,[(8,[[0],[0],[],[],[],[0],[0],[],[],[],[],[],[4],[],[],[],[],[21],[]])],[(0,AIe,TB)]⟩
def ZN[Lk]:Env:=ADi.ext 17 true true (AG 0 2 Kc Kb AQ Pb)
theorem AAy:AI Tryz.prog ZN:=Row.AE AO7 AHS Tryz.func17 Lp
abbrev AYd:Row:=⟨20,0,0,2,0,none,AB2,[(.ret,AM)],AA,[(6,[[],[],[],[],[],[],[],[],[],[]])],[(0,APi,Hx)]⟩
def ADf[Lk]:Env:=ZN.ext 20 true true (AG 0 2 AB2 AM AA Pp)
theorem AHP:AI Tryz.prog ADf:=Row.AE AYd AAy Tryz.func20 XF
abbrev AY4:Row:=⟨19,0,0,1,0,none,NM,[(.ret,Dv)],AQ,[],[(0,AP4,MW)]⟩
def ADm[Lk]:Env:=ADf.ext 19 true true (AG 0 1 NM Dv AQ WC)
theorem AHW:AI Tryz.prog ADm:=Row.AE AY4 AHP Tryz.func19 XS
abbrev AmQ:Row:=⟨24,0,0,2,0,none,AWU,[(.ret,AM)],AA,[(6,[[],[],[],[],[],[],[],[],[],[]])],[(0,AiW,Hx)]⟩
def AXS[Lk]:Env:=ADm.ext 24 true true (AG 0 2 AWU AM AA AMe)
theorem AUB:AI Tryz.prog AXS:=Row.AE AmQ AHW Tryz.func24 AiX
abbrev Agd:Row:=⟨21,0,0,1,0,none,AP,[(.ret,AK8)],AQ,[],[]⟩
def ANz[Lk]:Env:=AXS.ext 21 true true (AG 0 1 AP AK8 AQ YN)
theorem ANy:AI Tryz.prog ANz:=Row.AE Agd AUB Tryz.func21 Aak
abbrev An8:Row:=⟨22,0,0,3,0,none,AgM,[(.ret,AgL)],BE,[(9,[[18],[],[20],[],[7,22],[1],[]])],[(0,Ak1,Ak0)]⟩
def Ai3[Lk]:Env:=ANz.ext 22 true true (AG 0 3 AgM AgL BE AgN)
theorem Acl:AI Tryz.prog Ai3:=Row.AE An8 ANy Tryz.func22 AVl
abbrev AgP:Row:=⟨18,0,0,1,0,none,NM,[(.ret,Dv)],AQ,[],[(0,Aab,MW)]⟩
def ANt[Lk]:Env:=Ai3.ext 18 true true (AG 0 1 NM Dv AQ Oq)
theorem ANs:AI Tryz.prog ANt:=Row.AE AgP Acl Tryz.func18 ACn
abbrev Aaa:Row:=⟨10,0,0,2,0,none,Kc,[(.ret,Kb)],AQ,[],[(0,ARn,TB)]⟩
def AEC[Lk]:Env:=ANt.ext 10 true true (AG 0 2 Kc Kb AQ K4)
theorem AH1:AI Tryz.prog AEC:=Row.AE Aaa ANs Tryz.func10 On
abbrev Akz:Row:=⟨69,0,0,2,0,none,AVj,[(.ret,AM)],AA,[],[]⟩
def AW7[Lk]:Env:=AEC.ext 69 true true (AG 0 2 AVj AM AA AK2)
theorem ATq:AI Tryz.prog AW7:=Row.AE Akz AH1 Tryz.func69 AgK
abbrev AjK:Row:=⟨67,0,0,0,0,none,Vr,[(.ret,AUF)],AUE,[],[]⟩
def AWg[Lk]:Env:=AW7.ext 67 true true (AG 0 0 Vr AUF AUE AIU)
theorem ATP:AI Tryz.prog AWg:=Row.AE AjK ATq Tryz.func67 AIT
end
end Go.Pev
end
section
namespace Go.Pev
open Go.Proofs
noncomputable section
abbrev Aap:Row:=⟨16,0,0,2,0,none,ACv,[(.ret,AM)],AA,[],[]⟩
def AED[Lk]:Env:=AWg.ext 16 true true (AG 0 2 ACv AM AA Qm)
theorem AH2:AI Tryz.prog AED:=Row.AE Aap ATP Tryz.func16 YR
abbrev AcL:Row:=⟨15,0,0,0,0,none,Vr,[(.ret,AM)],AA,[(6,[[28],[],[],[],[],[48,50],[],[],[],[],[],[67],[69]]),(3,[[8],[],[],[10,12],[],[],[],[],[],[29],[],[]])],[]⟩
def AET[Lk]:Env:=AED.ext 15 true true (AG 0 0 Vr AM AA RE)
theorem AIJ:AI Tryz.prog AET:=Row.AE AcL AH2 Tryz.func15 Y6
abbrev AAP:Row:=⟨4,0,0,3,0,none,GU,[(.ret,AM)],AA,[],[(0,YE,YD)]⟩
def ABA[Lk]:Env:=AET.ext 4 true true (AG 0 3 GU AM AA C6)
theorem S1:AI Tryz.prog ABA:=Row.AE AAP AIJ Tryz.func4 MG
end
end Go.Pev
end
section

end
