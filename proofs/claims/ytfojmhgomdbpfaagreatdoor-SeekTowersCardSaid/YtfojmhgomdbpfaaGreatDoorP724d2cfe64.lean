/- A part of the proofs of this seat: ALIAS PevGlob PevDefs PevEval PevLoop PevSem PevStep PevConv PevRun PevOps PevPrs0 PevRows PevOps2 PevOps3 PevOps4 PevOps5. -/
import Derived.Calls
import Derived.Laws.Sem
import Derived.Orders
import Derived.Below
import Derived.Laws.AppendOwn
import Derived.Laws.Entries
import Derived.Maps.AppendAt
import Derived.Laws.Small
import Derived.Laws.StructEq
set_option linter.unusedVariables false
set_option linter.unusedSimpArgs false
set_option linter.unusedSectionVars false
set_option maxRecDepth 100000
section
namespace Go.Pev
abbrev Aog:=@decide_eq_false
abbrev Aoh:=@Option.some.injEq
abbrev Aoi:=@decide_eq_true
abbrev Aoj:=@List.getD_eq_getElem?_getD
abbrev Aok:=@decide_eq_true_eq
abbrev Aol:=@Bool.and_eq_true
abbrev Aom:=@List.mem_append
abbrev Aon:=@List.getElem?_eq_getElem
abbrev Aoo:=@List.mem_cons
abbrev Aop:=@Nat.le_refl
abbrev Aoq:=@if_pos
abbrev Aor:=@if_neg
abbrev Aos:=@List.length_append
abbrev Aot:=@List.length_cons
abbrev Aou:=@Int.eq_ofNat_of_zero_le
abbrev Aov:=@Bool.not_true
abbrev Aow:=@decide_true
abbrev Aox:=@List.mem_of_getElem?
abbrev Aoy:=@Option.map_eq_some_iff
abbrev Aoz:=@Array.length_toList
abbrev Ao0:=@List.length_range
abbrev Ao1:=@List.mem_map
abbrev Ao2:=@List.all_eq_true
abbrev Ao3:=@if_false
abbrev Ao4:=@List.cons.injEq
abbrev Ao5:=@Bool.false_eq_true
abbrev Ao6:=@List.eq_nil_of_length_eq_zero
abbrev Ao7:=@List.mem_cons_of_mem
abbrev Ao8:=@List.length_take
abbrev Ao9:=@decide_false
abbrev ApA:=@List.length_nil
abbrev ApB:=@List.mem_singleton
abbrev ApC:=@Prod.mk.injEq
abbrev ApD:=@List.getElem?_eq_none
abbrev ApE:=@List.cons_append
abbrev ApF:=@Option.getD_some
abbrev ApG:=@List.getElem?_append_left
abbrev ApH:=@List.map_cons
abbrev ApI:=@List.nil_append
abbrev ApJ:=@List.nodup_cons
abbrev ApK:=@List.getElem?_append_right
abbrev ApL:=@if_true
abbrev ApM:=@List.getElem?_set_ne
abbrev ApN:=@Ne.symm
abbrev ApO:=@Option.bind_eq_some_iff
abbrev ApP:=@List.getElem?_cons_zero
abbrev ApQ:=@Option.bind_some
abbrev ApR:=@Bool.not_false
abbrev ApS:=@Array.getD_eq_getD_getElem?
abbrev ApT:=@Nat.lt_or_ge
abbrev ApU:=@List.getElem?_take
abbrev ApV:=@List.getElem?_map
abbrev ApW:=@List.length_drop
abbrev ApX:=@List.length_singleton
abbrev ApY:=@List.foldl_cons
abbrev ApZ:=@List.pairwise_cons
abbrev Apa:=@List.mem_range
abbrev Apb:=@Int.toNat_natCast
abbrev Apc:=@List.drop_eq_getElem_cons
abbrev Apd:=@Nat.mul_le_mul_right
abbrev Ape:=@List.take_append_drop
abbrev Apf:=@List.length_set
abbrev Apg:=@decide_eq_false_iff_not
abbrev Aph:=@Nat.zero_add
abbrev Api:=@Nat.add_mul
abbrev Apj:=@Classical.byContradiction
abbrev Apk:=@List.getElem?_drop
abbrev Apl:=@List.length_map
abbrev Apm:=@List.mem_filter
abbrev Apn:=@List.getElem?_eq_some_iff
abbrev Apo:=@Bool.and_self
abbrev Apq:=@List.take_of_length_le
abbrev Apr:=@Option.some.inj
abbrev Aps:=@Nat.min_eq_left
abbrev Apt:=@Nat.mod_eq_of_lt
abbrev Apu:=@List.append_assoc
abbrev Apv:=@List.length_replicate
abbrev Apw:=@List.append_nil
abbrev Apx:=@Array.getElem?_eq_getElem
abbrev Apy:=@List.getElem_mem
abbrev Apz:=@List.drop_of_length_le
abbrev Ap0:=@Nat.le_trans
abbrev Ap1:=@Nat.eq_zero_or_pos
abbrev Ap2:=@Nat.eq_of_beq_eq_true
abbrev Ap3:=@List.range_succ
abbrev Ap4:=@List.filter_cons
abbrev Ap5:=@Nat.add_zero
abbrev Ap6:=@Nat.lt_of_lt_of_le
abbrev Ap7:=@List.getElem?_set_self
abbrev Ap8:=@Option.isSome_iff_exists
abbrev Ap9:=@Array.toList_map
abbrev AqA:=@Bool.not_eq_true'
abbrev AqB:=@List.size_toArray
abbrev AqC:=@not_true_eq_false
abbrev AqD:=@congrArg
abbrev AqE:=@List.getElem?_replicate
abbrev AqF:=@Bool.or_eq_true
abbrev AqG:=@List.mem_of_mem_drop
abbrev AqH:=@List.map_append
abbrev AqI:=@List.pairwise_iff_getElem
abbrev AqJ:=@List.getElem_of_mem
abbrev AqK:=@List.flatMap_cons
abbrev AqL:=@beq_iff_eq
abbrev AqM:=@List.getElem?_set
abbrev AqN:=@Nat.one_mul
abbrev AqO:=@List.contains_eq_mem
abbrev AqP:=@Nat.sub_self
abbrev AqQ:=@Option.map_some
abbrev AqR:=@List.perm_append_comm
abbrev AqS:=@Nat.le_of_lt
abbrev AqT:=@List.eq_of_mem_replicate
abbrev AqU:=@List.map_nil
abbrev AqV:=@Array.toArray_toList
abbrev AqW:=@List.getLast?_concat
abbrev AqX:=@Nat.mod_lt
abbrev AqY:=@List.ext_getElem?
abbrev AqZ:=@List.nodup_append
abbrev Aqa:=@List.pairwise_map
abbrev Aqb:=@Array.toList_append
abbrev Aqc:=@Array.toList_modify
abbrev Aqd:=@List.drop_one
abbrev Aqe:=@Int.tdiv_eq_ediv_of_nonneg
abbrev Aqf:=@List.take_append
abbrev Aqg:=@List.take_length
abbrev Aqh:=@List.take_succ_eq_append_getElem
abbrev Aqi:=@List.not_mem_nil
abbrev Aqj:=@decide_eq_decide
abbrev Aqk:=@List.drop_zero
abbrev Aql:=@List.drop_drop
abbrev Aqm:=@List.tail_cons
abbrev Aqn:=@Bool.or_eq_false_iff
abbrev Aqo:=@List.flatten_cons
abbrev Aqp:=@of_decide_eq_true
abbrev Aqq:=@false_and
abbrev Aqr:=@List.getElem?_cons_succ
abbrev Aqs:=@List.getElem?_range
abbrev Aqt:=@Bool.false_and
abbrev Aqu:=@Nat.mul_one
abbrev Aqv:=@List.findIdx_lt_length
abbrev Aqw:=@Nat.le_of_eq
abbrev Aqx:=@decide_eq_true_iff
abbrev Aqy:=@List.filter_append
abbrev Aqz:=@Array.getElem?_toList
abbrev Aq0:=@List.singleton_append
abbrev Aq1:=@Bool.true_and
abbrev Aq2:=@true_and
abbrev Aq3:=@Array.toList_push
abbrev Aq4:=@List.mem_of_mem_take
abbrev Aq5:=@List.getLast?_append
abbrev Aq6:=@List.mem_take_iff_getElem
abbrev Aq7:=@List.take_take
abbrev Aq8:=@Nat.mul_le_mul
abbrev Aq9:=@List.any_eq_true
abbrev ArA:=@Nat.max_eq_right
abbrev ArB:=@List.eraseIdx_cons_succ
abbrev ArC:=@Bool.eq_iff_iff
abbrev ArD:=@List.zip_cons_cons
abbrev ArE:=@Nat.add_sub_cancel
abbrev ArF:=@Nat.max_eq_left
abbrev ArG:=@List.getLast?_eq_some_getLast
abbrev ArH:=@List.findIdx_cons
abbrev ArI:=@Classical.not_not
abbrev ArJ:=@Nat.zero_mul
abbrev ArK:=@List.take_left
abbrev ArL:=@Nat.le_of_ble_eq_true
abbrev ArM:=@List.eraseIdx_sublist
abbrev ArN:=@and_true
abbrev ArO:=@List.Pairwise.filter
abbrev ArP:=@List.pairwise_append
abbrev ArQ:=@List.getElem?_of_mem
abbrev ArR:=@or_false
abbrev ArS:=@Nat.min_eq_right
abbrev ArT:=@List.countP_cons
abbrev ArU:=@Nat.add_assoc
abbrev ArV:=@Int.fdiv_eq_ediv_of_nonneg
abbrev ArW:=@List.flatMap_append
abbrev ArX:=@List.mem_or_eq_of_mem_set
abbrev ArY:=@Array.mapM_eq_mapM_toList
abbrev ArZ:=@List.extract_eq_take_drop
abbrev Ara:=@List.take_left'
abbrev Arb:=@List.headD_cons
abbrev Arc:=@List.append_of_mem
abbrev Ard:=@Nat.mod_eq_sub_mod
abbrev Are:=@Nat.lt_or_gt_of_ne
abbrev Arf:=@List.find?_range_eq_some
abbrev Arh:=@BitVec.toNat_ofInt
abbrev Ari:=@List.getLast?_cons_cons
abbrev Arj:=@List.filter_cons_of_pos
abbrev Ark:=@List.filter_cons_of_neg
abbrev Arl:=@Nat.lt_trichotomy
abbrev Arm:=@Nat.zero_le
abbrev Arn:=@Int.mul_add
abbrev Aro:=@Int.mul_one
abbrev Arp:=@List.map_eq_append_iff
abbrev Arq:=@List.any_cons
abbrev Arr:=@List.drop_append
abbrev Ars:=@List.ext_getElem
abbrev Art:=@List.mem_flatten
abbrev Aru:=@List.range'_succ
abbrev Arv:=@List.mem_flatMap
abbrev Arw:=@List.nodup_range
end Go.Pev
end
section
namespace Go.Pev
def ATp:List Int:=[0,1,28,2,29,14,24,3,30,22,20,15,25,17,4,8,31,27,13,23,21,19,16,7,26,12,18,6,11,5,10,9]
def AOO:List (Nat×IntKind×List Int):=[(0,.u8,ATp)]
end Go.Pev
end
section
namespace Go.Pev
inductive Ty where
 |unit|bool
 |int (k:IntKind)
 |slice (e:Ty)
 |prod (a b:Ty)
 |arr (n:Nat) (e:Ty)
 |nul (e:Ty)
 |mapi (j:IntKind) (e:Ty)
 deriving DecidableEq
@[reducible] def Ty.den:Ty→Type
 |.unit=>Unit
 |.bool=>Bool
 |.int _=>Int
 |.slice e=>List e.den
 |.prod a b=>a.den×b.den
 |.arr _ e=>List e.den
 |.nul _=>Unit
 |.mapi _ e=>List (Int×e.den)
def Ty.size:Ty→Nat
 |.unit=>0
 |.bool=>1
 |.int _=>1
 |.slice _=>1
 |.prod a b=>a.size+b.size
 |.arr n e=>n*e.size
 |.nul _=>1
 |.mapi _ _=>1
def Ty.isAgg:Ty→Bool
 |.unit=>true
 |.prod _ _=>true
 |.arr _ _=>true
 |_=>false
def Ty.made(b:Bool):Ty→Ty
 |.slice e=>match b with
  |true=>.nul e
  |false=>.slice e
 |t=>t
def Ty.nul? : (t:Ty)→Option Ty
 |.nul e=>some e
 |_=>none
def Ty.zero:(t:Ty)→t.den
 |.unit=>()
 |.bool=>false
 |.int _=>(0:Int)
 |.slice _=>[]
 |.prod a b=>(a.zero,b.zero)
 |.arr n e=>List.replicate n e.zero
 |.nul _=>()
 |.mapi _ _=>[]
def Ty.flat:Ty→Bool
 |.unit=>true
 |.bool=>true
 |.int _=>true
 |.slice _=>false
 |.prod a b=>a.flat&&b.flat
 |.arr _ e=>e.flat
 |.nul _=>true
 |.mapi _ _=>false
inductive AV where
 |junk
 |data (t:Ty) (d:t.den)
 |nils (e:Ty)
 |agg (cs:List AV)
 |own (id:Nat)
 |win (id off n:Nat)
 |ptr (id off:Nat)
 |eptr (id i sub:Nat)
 |dptr (cs:List AV)
 |clo (f:FuncId) (caps:List AV)
 |bnd (f:FuncId) (fs:List AV)
 |str (xs:List Int)
 |clip (t:Ty) (xs:List t.den)
 |mp (id:Nat)
 |tup (vs:List AV)
 |rowp (id i ver:Nat)
 |glob (g:Nat)
 |aptr (id n:Nat)
 |nilp
def BB{α:Type}(xs:List α)(i:Nat)(x:α):List α:=xs.set i x
inductive RK where
 |arr (T:TypeId)
 |map (j:IntKind) (ks:List Int)
def RK.JE:RK→Bool
 |.arr _=>true
 |.map _ _=>false
def C2(ks:List Int)(x:Int):Nat:=
 match ks with
 |[]=>0
 |k::ks=>if k=x then 0 else C2 ks x+1
def MA{α:Type}(xs:List α)(i:Nat)(x:α):List α:=if i<xs.length then xs.set i x else xs++[x]
def RK.put{α:Type}(K:RK)(xs:List α)(i:Nat)(x:α):List α:=
 match K with
 |.arr _=>BB xs i x
 |.map _ _=>MA xs i x
inductive Ob where
 |free
 |dead
 |box (cs:List AV)
 |arr (T:TypeId) (t:Ty) (xs:List t.den)
 |map (k v:Ty) (es:List (k.den×v.den))
 |prs (T:TypeId) (tgt:Nat) (is:List Int)
 |rows (K:RK) (e:TypeId) (t:Ty) (xs:List (List t.den)) (ver:Nat) (out:Option Nat)
def Fv(tgt:Nat)(is:List Int):List AV:=is.map fun i=>.eptr tgt i.toNat 0
def BU:Ob→Bool
 |.rows _ _ _ _ _ _=>false
 |_=>true
structure St where
 tmps:List AV
 heap:List Ob
 frz:List Bool
structure Eff where
 heap:Option (List Ob×List Bool):=none
 objs:List (Nat×Ob):=[]
 frz:List Nat:=[]
def AK{α:Type}(xs:List α):Int:=(xs.length:Int)
def Ac{α:Type}(xs:List α)(i:Nat)(z:α):α:=xs.getD i z
def A1{α:Type}(xs ys:List α):List α:=xs++ys
def B0{α:Type}(n:Nat)(xs:List α):List α:=xs.take n
def DS{α:Type}(off n:Nat)(xs:List α):List α:=(xs.drop off).take n
def D6{α:Type}(n:Nat)(x:α):List α:=List.replicate n x
def AO(n:Int):Nat:=n.toNat
def CL{α:Type}(off n:Nat)(z:α)(xs:List α):List α:=xs.take off++(List.replicate n z++xs.drop (off+n))
def AGA:Operand→Option ByteArray
 |.const (.string s)=>some s
 |_=>none
def bytesOf(s:ByteArray):List Int:=s.data.toList.map fun b=>(b.toNat:Int)
def AF3(xs:List Int):List Int:=xs.map fun n=>((UInt8.ofNat n.toNat).toNat:Int)
def Cp(a b:Int):Int:=if b<a then b else a
def imax(a b:Int):Int:=if b > a then b else a
noncomputable def lock{α:Type}(x:α):α:=Classical.choose (⟨x,rfl⟩:∃ y,y=x)
theorem AJ{α:Type}(x:α):lock x=x:=Classical.choose_spec (⟨x,rfl⟩:∃ y,y=x)
class Lk where
 f:{α:Type}→α→α
noncomputable instance lockI:Lk:=⟨fun x=>lock x⟩
abbrev idI:Lk:=⟨fun x=>x⟩
theorem AEt:lockI=idI:=by
 unfold lockI idI
 congr
 funext α x
 exact AJ x
def Pe{α:Type}(xs:List α)(i:Int):Option α:=if i<0 then none else xs[i.toNat]?
def idx[Lk]{α:Type}(xs:List α)(i:Int):Option α:=Lk.f (Pe xs i)
theorem idx_eq{α:Type}(xs:List α)(i:Int):idx xs i=Pe xs i:=AJ _
def Po{α:Type}(xs:List α)(l h:Int):Option (List α):=
 if 0≤l∧l≤h∧h≤xs.length then some ((xs.take h.toNat).drop l.toNat)else none
def Cj[Lk]{α:Type}(xs:List α)(l h:Int):Option (List α):=Lk.f (Po xs l h)
theorem AAq{α:Type}(xs:List α)(l h:Int):Cj xs l h=Po xs l h:=AJ _
def ilt[Lk](a b:Int):Bool:=Lk.f (decide (a<b))
def ile[Lk](a b:Int):Bool:=Lk.f (decide (a≤b))
def ieq[Lk](a b:Int):Bool:=Lk.f (a==b)
theorem Af(a b:Int):ilt a b=decide (a<b):=AJ _
theorem Ar(a b:Int):ile a b=decide (a≤b):=AJ _
def AjN(a b:Int):Bool:=decide (a<b)
def AjO(a b:Int):Bool:=decide (a≤b)
def AjP(a b:Int):Bool:=a==b
theorem B4(a b:Int):ieq a b=(a==b):=AJ _
def AlG(a b:List Int):Bool:=a==b
def seq?[Lk](a b:List Int):Bool:=Lk.f (AlG a b)
theorem seq_eq(a b:List Int):seq? a b=AlG a b:=AJ _
def BS:(t:Ty)→t.den→List AV
 |.unit,_=>[]
 |.bool,b=>[.data .bool b]
 |.int k,n=>[.data (.int k) n]
 |.slice e,xs=>[.data (.slice e) xs]
 |.prod a b,d=>BS a d.1++BS b d.2
 |.arr n e,xs=>(List.range n).flatMap fun i=>BS e (Ac xs i e.zero)
 |.nul e,_=>[.nils e]
 |.mapi j e,es=>[.data (.mapi j e) es]
def zeroCells:Ty→List AV
 |.unit=>[]
 |.bool=>[.data .bool false]
 |.int k=>[.data (.int k) (0:Int)]
 |.slice e=>[.nils e]
 |.prod a b=>zeroCells a++zeroCells b
 |.arr n e=>(List.replicate n (zeroCells e)).flatten
 |.nul e=>[.nils e]
 |.mapi _ _=>[.junk]
def Qz(k:IntKind):List AV→Option (List Int)
 |[]=>some []
 |.data (.int j) n::r=>match decide (j=k),Qz k r with
  |true,some ns=>some (n::ns)
  |_,_=>none
 |_::_=>none
def cast{t t':Ty}(d:t.den):Option t'.den:=if h:t=t' then some (h▸d)else none
def Mt{t t':Ty}(d:List t.den):Option (List t'.den):=if h:t=t' then some (h▸d)else none
def Dq(H:List Ob)(t:Ty)(v:AV):Option (t.den×List Nat):=
 match v with
 |.data _ d=>(cast d:Option t.den).map fun x=>(x,[])
 |.clip e xs=>(cast (t:=.slice e) xs:Option t.den).map fun x=>(x,[])
 |.nils _=>match t with
  |.slice _=>some ([],[])
  |.nul _=>some ((),[])
  |_=>none
 |.own id=>match H[id]? with
  |some (.arr _ e xs)=>(cast (t:=.slice e) xs:Option t.den).map fun x=>(x,[id])
  |_=>none
 |.win id off n=>match H[id]? with
  |some (.arr _ e xs)=>(cast (t:=.slice e) (DS off n xs):Option t.den).map fun x=>(x,[id])
  |_=>none
 |.mp id=>match H[id]? with
  |some (.rows (.map j ks) _ e xs _ none)=>(cast (t:=.mapi j (.slice e)) (List.zip (β:=List e.den) ks xs):Option t.den).map fun x=>(x,[id])
  |_=>none
 |_=>none
def Ss{α:Type}(one:List AV→Option (α×List Nat×List AV)):Nat→List AV→Option (List α×List Nat×List AV)
 |0,cs=>some ([],[],cs)
 |n+1,cs=>match one cs with
  |none=>none
  |some (x,f,cs)=>match Ss one n cs with
   |none=>none
   |some (xs,g,cs)=>some (x::xs,f++g,cs)
def Ao(H:List Ob):(t:Ty)→List AV→Option (t.den×List Nat×List AV)
 |.unit,cs=>some ((),[],cs)
 |.bool,c::cs=>match Dq H .bool c with
  |none=>none
  |some (x,f)=>some (x,f,cs)
 |.int k,c::cs=>match Dq H (.int k) c with
  |none=>none
  |some (x,f)=>some (x,f,cs)
 |.slice e,c::cs=>match Dq H (.slice e) c with
  |none=>none
  |some (x,f)=>some (x,f,cs)
 |.prod a b,cs=>match Ao H a cs with
  |none=>none
  |some (x,f,cs)=>match Ao H b cs with
   |none=>none
   |some (y,g,cs)=>some ((x,y),f++g,cs)
 |.arr n e,cs=>Ss (Ao H e) n cs
 |.nul e,c::cs=>match Dq H (.nul e) c with
  |none=>none
  |some (x,f)=>some (x,f,cs)
 |.mapi j e,c::cs=>match Dq H (.mapi j e) c with
  |none=>none
  |some (x,f)=>some (x,f,cs)
 |_,[]=>none
def asAgg(H:List Ob)(t:Ty)(v:AV):Option (t.den×List Nat):=
 match v with
 |.data _ d=>(cast d:Option t.den).map fun x=>(x,[])
 |.agg cs=>match Ao H t cs with
  |some (x,f,[])=>some (x,f)
  |_=>none
 |_=>none
def Eo(H:List Ob)(t:Ty)(v:AV):Option (t.den×List Nat):=
 match t.isAgg with
 |true=>asAgg H t v
 |false=>Dq H t v
def Zm(H:List Ob)(t:Ty)(v:AV):Option (t.den×List Nat):=
 match v with
 |.own id=>match H[id]? with
  |some (.rows (.arr _) _ e xs _ none)=>(cast (t:=.slice (.slice e)) xs:Option t.den).map fun x=>(x,[id])
  |_=>Eo H t (.own id)
 |v=>Eo H t v
@[reducible] def B6:List Ty→Type
 |[]=>Unit
 |t::ts=>t.den×B6 ts
abbrev Spec:=(R:Type)→List AV→List Ob→List Bool→Nat→(AV→Eff→Option R)→Option R
abbrev AUu:=(R:Type)→St→(Exit→St→Option R)→Option R
def AAE(P:Program):Nat→TypeId→Option Ty
 |0,_=>none
 |n+1,t=>match P.underlying t with
  |some .bool=>some .bool
  |some (.int k)=>some (.int k)
  |some (.slice e)=>(AAE P n e).map .slice
  |some (.array c e)=>(AAE P n e).map (.arr c)
  |some (.struct fs)=>(fs.toList.mapM fun f=>AAE P n f.type).map fun ts=>ts.foldr Ty.prod .unit
  |_=>none
def ALI(P:Program)(t:TypeId):Option Ty:=AAE P 12 t
def sliceAt(P:Program)(t:TypeId):Option (TypeId×Ty):=
 match P.underlying t with
 |some (.slice e)=>match ALI P e with
  |some x=>match decide (0<x.size)with
   |true=>some (e,x)
   |false=>none
  |none=>none
 |_=>none
def EI(P:Program)(t:TypeId):Option Bool:=
 match P.underlying t with
 |some (.struct _)=>some true
 |some (.array _ _)=>some true
 |some _=>some false
 |none=>none
def Cu:AV→Value→Bool
 |.data .bool b,.bool c=>b==c
 |.data (.int k) n,.int k' m=>(decide (k=k'))&&(n==m)
 |.nils _,.slice none 0 0=>true
 |_,_=>false
def Br:List AV→List Value→Bool
 |[],[]=>true
 |a::asz,v::vs=>Cu a v&&Br asz vs
 |_,_=>false
def XL:Value→Bool
 |.agg _=>true
 |_=>false
def zeroAt(P:Program)(T:TypeId):Option (Ty×List AV):=
 match ALI P T,P.info? T with
 |some t,some i=>match i.zero with
  |some z=>if Br (zeroCells t) z.cells.toList&&(i.size==t.size)&&(t.isAgg==XL z)then some (t,zeroCells t)else none
  |none=>none
 |_,_=>none
def AOe:Value→AV
 |.bool b=>.data .bool b
 |.int k n=>.data (.int k) n
 |.slice none 0 0=>.nils .unit
 |.pointer none=>.nilp
 |.string s=>.str (bytesOf s)
 |_=>.junk
def BW(tmps:List AV):Operand→AV
 |.tmp t=>tmps.getD t .junk
 |.const v=>AOe v
 |.func f=>.clo f []
 |.global g=>.glob g
def cells? : AV→Option (List AV)
 |.junk=>none
 |.tup _=>none
 |.data .unit _=>some []
 |.data (.prod a b) d=>some (BS (.prod a b) d)
 |.data (.arr n e) d=>some (BS (.arr n e) d)
 |.agg cs=>some cs
 |v=>some [v]
noncomputable def AaF[Lk](op:BinOp)(k:IntKind)(a b:Int):Option AV:=
 match op with
 |.add=>some (.data (.int k) (k.wrap (a+b)))
 |.sub=>some (.data (.int k) (k.wrap (a-b)))
 |.mul=>some (.data (.int k) (k.wrap (a*b)))
 |.and=>some (.data (.int k) (k.wrap (BitVec.ofInt k.bits a &&& BitVec.ofInt k.bits b).toNat))
 |.or=>some (.data (.int k) (k.wrap (BitVec.ofInt k.bits a ||| BitVec.ofInt k.bits b).toNat))
 |.xor=>some (.data (.int k) (k.wrap (BitVec.ofInt k.bits a ^^^ BitVec.ofInt k.bits b).toNat))
 |.andNot=>some (.data (.int k) (k.wrap (BitVec.ofInt k.bits a &&& ~~~(BitVec.ofInt k.bits b)).toNat))
 |.eql=>some (.data .bool (ieq a b))
 |.neq=>some (.data .bool (!(ieq a b)))
 |.lss=>some (.data .bool (ilt a b))
 |.leq=>some (.data .bool (ile a b))
 |.gtr=>some (.data .bool (ilt b a))
 |.geq=>some (.data .bool (ile b a))
 |_=>none
def WL(k:IntKind)(a b:Int):Option Int:=if b=0 then none else some (k.wrap (a.tdiv b))
def quo?[Lk](k:IntKind)(a b:Int):Option Int:=Lk.f (WL k a b)
theorem WK(k:IntKind)(a b:Int):quo? k a b=WL k a b:=AJ _
def ADG(a b:Int):Option Int:=if b=0 then none else some (a.tmod b)
def rem?[Lk](a b:Int):Option Int:=Lk.f (ADG a b)
theorem AMk(a b:Int):rem? a b=ADG a b:=AJ _
def ACR(k:IntKind)(a b:Int):Option Int:=if b<0 then none else some (k.wrap (a*2 ^ min b.toNat k.bits))
def shl?[Lk](k:IntKind)(a b:Int):Option Int:=Lk.f (ACR k a b)
theorem AMR(k:IntKind)(a b:Int):shl? k a b=ACR k a b:=AJ _
def AAG(k:IntKind)(a b:Int):Option Int:=if b<0 then none else some (a.fdiv (2 ^ min b.toNat k.bits))
def shr?[Lk](k:IntKind)(a b:Int):Option Int:=Lk.f (AAG k a b)
theorem ACQ(k:IntKind)(a b:Int):shr? k a b=AAG k a b:=AJ _
def Py(n:Int):Bool:=Nat.ble n.toNat 4294967296
theorem Xa(n:Int):Py n=true↔n≤4294967296:=by
 unfold Py
 rw[Nat.ble_eq]
 omega
def fits[Lk](n:Int):Bool:=Lk.f (Py n)
theorem AmS(n:Int):fits n=Py n:=AJ _
theorem FT(n:Int):fits n=true↔n≤4294967296:=by rw[AmS,Xa]
def L6(n:Int):Bool:=decide (0≤n)&&Nat.ble n.toNat 4294967296
theorem AZK(n:Int):L6 n=true↔0≤n∧n≤4294967296:=by
 unfold L6
 rw[Aol,Nat.ble_eq,Aok]
 omega
def DM[Lk](n:Int):Bool:=Lk.f (L6 n)
theorem Ajw(n:Int):DM n=L6 n:=AJ _
theorem D5(n:Int):DM n=true↔0≤n∧n≤4294967296:=by rw[Ajw,AZK]
def Ll(P:Program)(t:TypeId):Option IntKind:=
 match P.underlying t with
 |some (.int k)=>some k
 |_=>none
def De(cs new:List AV)(off:Nat):Option (List AV):=
 if off+new.length≤cs.length then some (cs.take off++new++cs.drop (off+new.length))else none
def Eh(place:Nat→Option (Nat×Nat)):List (Nat×AV)→List AV→Option (List AV)
 |[],cs=>some cs
 |(i,v)::rest,cs=>match place i with
  |none=>none
  |some (off,size)=>match cells? v with
   |none=>none
   |some vs=>match decide (vs.length=size)with
    |false=>none
    |true=>match De cs vs off with
     |none=>none
     |some cs=>Eh place rest cs
def fieldAt(P:Program)(T:TypeId)(f:Nat):Option (Nat×Nat×Bool):=
 match P.underlying T with
 |some (.struct fs)=>match fs[f]? with
  |some f=>match P.info? f.type,EI P f.type with
   |some i,some ag=>some (f.offset,i.size,ag)
   |_,_=>none
  |none=>none
 |_=>none
def elemAt(P:Program)(T:TypeId):Option (Nat×Bool):=
 match P.underlying T with
 |some (.array _ e)=>match P.info? e,EI P e with
  |some i,some ag=>some (i.size,ag)
  |_,_=>none
 |_=>none
def BJ(P:Program)(T:TypeId):Option Nat:=(P.info? T).map (·.size)
def cellAt(P:Program)(T:TypeId):Option TypeId:=
 match P.underlying T with
 |some (.slice e)=>match P.info? e with
  |some i=>match i.zero with
   |some z=>match decide (i.size=1)&&(decide (z.cells.size=1)&&decide (i.bytes≤1024))with
    |true=>some e
    |false=>none
   |none=>none
  |none=>none
 |_=>none
def loadCells(agg:Bool)(size:Nat)(cs:List AV):Option AV:=
 match agg with
 |true=>if size≤cs.length then some (.agg (cs.take size))else none
 |false=>cs.head?
def AS{α β:Type}[DecidableEq α](es:List (α×β))(k:α):Option β:=
 match es with
 |[]=>none
 |(a,b)::es=>if a=k then some b else AS es k
def Ah{α β:Type}[DecidableEq α](es:List (α×β))(k:α)(v:β):List (α×β):=
 match es with
 |[]=>[(k,v)]
 |(a,b)::es=>if a=k then(a,v)::es else(a,b)::Ah es k v
def G9{α β:Type}[DecidableEq α](es:List (α×β))(k:α):Option Nat:=
 match es with
 |[]=>none
 |(a,_)::es=>if a=k then some 0 else(G9 es k).map (· + 1)
def AHz{α β:Type}[DecidableEq α](es:List (α×β))(k:α):Int:=((G9 es k).getD es.length:Nat)
def AeU{α β:Type}(es:List (α×β))(i:Int)(v:β):List (α×β):=es.modify i.toNat fun e=>(e.1,v)
instance decDen:(t:Ty)→DecidableEq t.den
 |.unit=>inferInstanceAs (DecidableEq Unit)
 |.bool=>inferInstanceAs (DecidableEq Bool)
 |.int _=>inferInstanceAs (DecidableEq Int)
 |.slice e=>haveI:=decDen e;inferInstanceAs (DecidableEq (List e.den))
 |.prod a b=>@instDecidableEqProd _ _ (decDen a) (decDen b)
 |.arr _ e=>haveI:=decDen e;inferInstanceAs (DecidableEq (List e.den))
 |.nul _=>inferInstanceAs (DecidableEq Unit)
 |.mapi _ e=>haveI:=decDen e;inferInstanceAs (DecidableEq (List (Int×e.den)))
def JC(H:List Ob)(id:Nat):Bool:=
 match H[id]? with
 |some (.box _)=>true
 |_=>false
def Cf(H:List Ob)(id:Nat):Bool:=
 match H[id]? with
 |some (.arr _ _ _)=>true
 |_=>false
def F8(H:List Ob):AV→Bool
 |.data (.slice _) _=>true
 |.nils _=>true
 |.own id=>Cf H id
 |.win id _ _=>Cf H id
 |_=>false
def Tg:AV→Bool
 |.agg _=>true
 |.data t _=>t.isAgg
 |_=>false
def At(H:List Ob)(fz:List Bool)(slot:Nat):Bool:=
 match H[slot]? with
 |some .free => !(fz.getD slot false)
 |_=>false
def Aj(fz:List Bool)(id:Nat):Bool := !(fz.getD id false)
noncomputable def Gb[Lk](H:List Ob)(sz:Option Nat)(x:AV)(lo hi:Option Int):(R:Type)→(AV→Option R)→Option R:=fun _ k=>
 match x with
 |.data (.slice e) xs=>match decide (sz=some e.size)with
  |true=>match Cj xs (lo.getD 0) (hi.getD (AK xs))with
   |none=>none
   |some ys=>k (.data (.slice e) ys)
  |false=>none
 |.nils e=>match sz.isSome with
  |true=>match Cj ([]:List Unit) (lo.getD 0) (hi.getD 0)with
   |some _=>k (.nils e)
   |none=>none
  |false=>none
 |.own id=>match H[id]? with
  |some (.arr _ e xs)=>match decide (sz=some e.size)with
   |true=>match Cj xs (lo.getD 0) (hi.getD (AK xs))with
    |none=>none
    |some ys=>k (.win id (AO (lo.getD 0)) (AO (AK ys)))
   |false=>none
  |_=>none
 |.win id off n=>match H[id]? with
  |some (.arr _ e xs)=>match decide (sz=some e.size)with
   |true=>match Cj (DS off n xs) (lo.getD 0) (hi.getD (n:Int))with
    |none=>none
    |some ys=>k (.win id (off+AO (lo.getD 0)) (AO (AK ys)))
   |false=>none
  |_=>none
 |_=>none
def AKQ:AV→Option Int
 |.data (.int _) n=>some n
 |_=>none
def Eb(ρ:Operand→AV):Option Operand→Option (Option Int)
 |none=>some none
 |some x=>(AKQ (ρ x)).map some
end Go.Pev
end
section
namespace Go.Pev
noncomputable section
structure Env where
 spec:FuncId→Spec
 loc:FuncId→Bool
 loc2:FuncId→Bool
 keep:Bool:=false
 rows:Bool:=false
 arrs:Bool:=false
def A9:List (Nat×Ob)→List Ob→List Ob
 |[],H=>H
 |(i,o)::rest,H=>A9 rest (H.set i o)
def Ak:List Nat→List Bool→List Bool
 |[],F=>F
 |i::rest,F=>Ak rest (F.set i true)
structure Hints where
 fp:Nat→List (List Nat):=fun _=>[]
 loop:Nat→AUu:=fun _ _ _ _=>none
def slotsOf:Op→Nat
 |.alloc _=>1
 |.box ..=>1
 |.buildSlice ..=>1
 |.makeSlice ..=>1
 |.makeMap ..=>1
 |.slice _ _ _ _ (some _)=>1
 |.call { callee:=.builtin .append,.. }=>1
 |.call { callee:=.value _,.. }=>4
 |_=>0
def DR(H:List Ob)(t:Ty):List (Nat×AV)→List t.den→List Nat→Option (List t.den×List Nat)
 |[],xs,fr=>some (xs,fr)
 |(i,v)::rest,xs,fr=>match Eo H t v,decide (i<xs.length)with
  |some (x,f),true=>DR H t rest (xs.set i x) (fr++f)
  |_,_=>none
def AA4(P:Program)(T:TypeId):Bool:=
 match P.underlying T with
 |some (.slice e)=>match P.underlying e with
  |some (.int .u8)=>true
  |_=>false
 |_=>false
def Aam(P:Program)(T:TypeId):Bool:=
 match P.underlying T with
 |some .string=>true
 |_=>false
def Ai9(P:Program)(T:TypeId):Option Ty:=
 match P.underlying T with
 |some (.int k)=>some (.int k)
 |_=>none
def Aiq(P:Program)(T:TypeId):AV:=
 match sliceAt P T with
 |some (_,t)=>.nils t
 |none=>.nils .unit
def NH(P:Program)(t:TypeId):Bool:=
 match P.underlying t with
 |some (.int _)=>true
 |some .bool=>true
 |_=>false
def Di(P:Program):List Field→Nat→Bool
 |[],_=>true
 | f :: fs, i => (f.name != "_") && (decide (f.offset = i) && (NH P f.type && Di P fs (i + 1)))
def IP(P:Program)(t:TypeId):Bool:=
 match P.underlying t with
 |some (.int _)=>true
 |_=>false
def structEq(P:Program)(T:TypeId):Option (List Bool):=
 match P.underlying T with
 |some (.struct fs)=>match !(P.eqGuardType P.depth T)&&(!(P.stoodInHeld T)&&Di P fs.toList 0)with
  |true=>some (fs.toList.map fun f=>IP P f.type)
  |false=>none
 |_=>none
def Qj(P:Program):List Field→Nat→Option (List Bool)
 |[],_=>some []
 | f :: fs, i => match (f.name != "_") && decide (f.offset = i) with
  |false=>none
  |true=>match NH P f.type with
   |true=>(Qj P fs (i+1)).map (IP P f.type :: ·)
   |false=>match P.underlying f.type with
    |some (.struct gs)=>match !(P.stoodInHeld f.type)&&(Di P gs.toList 0&&decide (BJ P f.type=some gs.size))with
     |true=>(Qj P fs (i+gs.size)).map ((gs.toList.map fun g=>IP P g.type) ++ ·)
     |false=>none
    |_=>none
def VY(P:Program)(T:TypeId):Option (List Bool):=
 match P.underlying T with
 |some (.struct fs)=>match !(P.eqGuardType P.depth T) && !(P.stoodInHeld T)with
  |true=>Qj P fs.toList 0
  |false=>none
 |_=>none
def AYk(P:Program)(T:TypeId):Option Nat:=
 match P.info? T with
 |some i=>match i.zero with
  |some z=>match z.cells.toList.all fun u=>u.oneCell' with
   |true=>some z.cells.size
   |false=>none
  |none=>none
 |none=>none
def kinds? : Ty→Option (List Bool)
 |.unit=>some []
 |.prod (.int _) r=>(kinds? r).map (true :: ·)
 |.prod .bool r=>(kinds? r).map (false :: ·)
 |_=>none
def Sc(P:Program)(T:TypeId):Option Ty:=
 match P.underlying T with
 |some (.array n e)=>match decide (n=2),P.underlying e,decide (BJ P e=some 1)with
  |true,some (.int k),true=>some (.prod (.int k) (.prod (.int k) .unit))
  |_,_,_=>none
 |_=>none
def ZV(P:Program)(T:TypeId):Option Ty:=
 match Ai9 P T with
 |some t=>some t
 |none=>match structEq P T,ALI P T with
  |some n,some t=>match decide (kinds? t=some n)with
   |true=>some t
   |false=>none
  |_,_=>Sc P T
noncomputable def BL[Lk]:List Bool→List AV→List AV→Option Bool
 |[],[],[]=>some true
 |true::ks,.data (.int j) a::cs,.data (.int j') b::ds=>match decide (j=j'),BL ks cs ds with
  |true,some r=>some (ieq a b&&r)
  |_,_=>none
 |false::ks,.data .bool a::cs,.data .bool b::ds=>match BL ks cs ds with
  |some r=>some ((a==b)&&r)
  |none=>none
 |_,_,_=>none
def Ahu(P:Program)(T:TypeId):Option (List AV):=
 match P.info? T,P.underlying T with
 |some i,some (.struct fs)=>match i.zero with
  |some z=>match(z.cells.toList.all fun u=>u.oneCell')&&fs.toList.all fun f=>(P.info? f.type).isSome with
   |true=>some (List.replicate z.cells.size .junk)
   |false=>none
  |none=>none
 |_,_=>none
def Amy(E:Env)(t:Ty):Option (Nat×Ty):=
 match E.arrs,t with
 |true,.arr n e=>match decide (0<n)&&(Nat.ble n 4294967296&&decide (0<e.size))with
  |true=>some (n,e)
  |false=>none
 |_,_=>none
def AGv(H:List Ob)(n:Nat)(v:AV):Option (Nat×Nat×Int):=
 match v with
 |.aptr id n'=>match H[id]? with
  |some (.arr _ t xs)=>match decide (n'=n)with
   |true=>some (id,t.size,AK xs)
   |false=>none
  |_=>none
 |_=>none
def gAt:AV→Option (IntKind×List Int)
 |.glob g=>(AOO.find? fun p=>p.1==g).map (·.2)
 |_=>none
def Qq(P:Program)(E:Env)(e:TypeId)(t:Ty)(n:Nat):Ob:=
 match E.rows,sliceAt P e with
 |true,some (e2,t2)=>.rows (.arr e) e2 t2 (D6 n []) 0 none
 |_,_=>.arr e (t.made E.keep) (D6 n (t.made E.keep).zero)
def evalOp[Lk](P:Program)(E:Env)(R:Type)(o:Op)(ty:TypeId)(ρ:Operand→AV)(H:List Ob)(fz:List Bool)(slot:Nat)(k:AV→Eff→Option R):Option R:=
 match o with
 |.move x|.assign x=>match ρ x with
  |.nils .unit=>k (Aiq P ty) {}
  |v=>k v {}
 |.pick c a b=>match ρ c with
  |.data .bool true=>k (ρ a) {}
  |.data .bool false=>k (ρ b) {}
  |_=>none
 |.alloc T=>match zeroAt P T with
  |some (t,cs)=>(match At H fz slot with
   |true=>(match Amy E t with
    |some (n,e)=>k (.aptr slot n) { objs:=[(slot,.arr T e (D6 n e.zero))] }
    |none=>k (.ptr slot 0) { objs:=[(slot,.box cs)] })
   |false=>none)
  |none=>match AYk P T with
   |some n=>(match At H fz slot with|true=>k (.ptr slot 0) { objs:=[(slot,.box (List.replicate n .junk))] }|false=>none)
   |none=>none
 |.box T x=>match BJ P T with
  |some n=>match cells? (ρ x)with
   |some vs=>match decide (vs.length=n)with
    |true=>(match At H fz slot with|true=>k (.ptr slot 0) { objs:=[(slot,.box vs)] }|false=>none)
    |false=>none
   |none=>none
  |none=>none
 |.build T parts=>match zeroAt P T with
  |some (_,cs)=>match P.underlying T with
   |some (.struct fs)=>match Eh (fun i=>match fs[i]? with
     |some f=>(BJ P f.type).map fun n=>(f.offset,n)
     |none=>none) (parts.toList.map fun p=>(p.1,ρ p.2)) cs with
    |some cs=>k (.agg cs) {}
    |none=>none
   |some (.array _ e)=>match BJ P e with
    |some n=>match Eh (fun i=>some (i*n,n)) (parts.toList.map fun p=>(p.1,ρ p.2)) cs with
     |some cs=>k (.agg cs) {}
     |none=>none
    |none=>none
   |_=>none
  |none=>match Ahu P T,P.underlying T with
   |some cs,some (.struct fs)=>match Eh (fun i=>match fs[i]? with
     |some f=>(BJ P f.type).map fun n=>(f.offset,n)
     |none=>none) (parts.toList.map fun p=>(p.1,ρ p.2)) cs with
    |some cs=>k (.agg cs) {}
    |none=>none
   |_,_=>none
 |.buildSlice T len parts=>match sliceAt P T with
  |some (e,t)=>match zeroAt P e with
   |some _=>match decide (len*t.size≤16777216)with
    |true=>match DR H t (parts.toList.map fun p=>(p.1,ρ p.2)) (List.replicate len t.zero) []with
     |some (xs,fr)=>(match At H (Ak fr fz) slot with|true=>k (.own slot) { objs:=[(slot,.arr e t xs)],frz:=fr }|false=>none)
     |none=>none
    |false=>none
   |none=>none
  |none=>match cellAt P T,decide (len=1),parts.toList.map (fun p=>(p.1,ρ p.2))with
   |some e,true,[p]=>match p.2 with
    |.eptr tgt i sub=>match decide (p.1=0)&&(decide (sub=0)&&Cf H tgt)with
     |true=>(match At H fz slot with|true=>k (.own slot) { objs:=[(slot,.prs e tgt [Int.ofNat i])] }|false=>none)
     |false=>none
    |_=>none
   |_,_,_=>none
 |.load T a=>match BJ P T,EI P T with
  |some n,some ag=>match ρ a with
   |.ptr id off=>match H[id]? with
    |some (.box cs)=>match loadCells ag n (cs.drop off)with
     |some v=>k v {}
     |none=>none
    |_=>none
   |.dptr cs=>match loadCells ag n cs with
    |some v=>k v {}
    |none=>none
   |.eptr id i sub=>match H[id]? with
    |some (.arr _ t xs)=>match loadCells ag n ((BS t (Ac xs i t.zero)).drop sub)with
     |some v=>k v {}
     |none=>none
    |some (.prs _ tgt is)=>match(n==1)&&((sub==0) && !ag)with
     |true=>k (.eptr tgt (AO (Ac is i 0)) 0) {}
     |false=>none
    |some (.rows (.arr _) _ _ _ ver none)=>match(n==1)&&((sub==0) && !ag)with
     |true=>k (.rowp id i ver) {}
     |false=>none
    |_=>none
   |_=>none
  |_,_=>none
 |.store T a x=>match BJ P T,cells? (ρ x)with
  |some n,some vs=>match decide (vs.length=n)with
   |false=>none
   |true=>match ρ a with
    |.ptr id off=>match H[id]? with
     |some (.box cs)=>match De cs vs off with
      |some cs=>k .junk { objs:=[(id,.box cs)] }
      |none=>none
     |_=>none
    |.eptr id i sub=>match H[id]? with
     |some (.arr T' t xs)=>match t.nul? with
      |some e=>match(sub==0)&&(n==1)with
       |true=>match Eo H (.slice e) (ρ x)with
        |some (y,fr)=>match Aj (Ak fr fz) id with
         |true=>k .junk { objs:=[(id,.arr T' (.slice e) (BB (D6 (List.length (α:=t.den) xs) []) i y))],frz:=fr }
         |false=>none
        |none=>none
       |false=>none
      |none=>match(sub==0)&&(n==t.size)with
       |true=>match Eo H t (ρ x)with
        |some (y,fr)=>match Aj (Ak fr fz) id with
         |true=>k .junk { objs:=[(id,.arr T' t (BB xs i y))],frz:=fr }
         |false=>none
        |none=>none
       |false=>match De (BS t (Ac xs i t.zero)) vs sub with
        |none=>none
        |some cs=>match Ao H t cs with
         |some (y,fr,[])=>match Aj (Ak fr fz) id with
          |true=>k .junk { objs:=[(id,.arr T' t (BB xs i y))],frz:=fr }
          |false=>none
         |_=>none
     |some (.rows (.arr T') e t xs ver (some i'))=>match ρ x,((sub==0)&&(n==1))&&Aj fz id with
      |.rowp id' j ver',true=>match decide (id=id')&&decide (ver=ver')with
       |true=>match ieq (i:Int) (i':Int)&&ieq (j:Int) (i':Int)with
        |true=>k .junk { objs:=[(id,.rows (.arr T') e t xs ver none)] }
        |false=>none
       |false=>none
      |_,_=>none
     |_=>none
    |_=>none
  |_,_=>none
 |.nilCheck x=>match ρ x with
  |.ptr id off=>match JC H id with
   |true=>k (.ptr id off) {}
   |false=>none
  |.eptr id i s=>match Cf H id with
   |true=>k (.eptr id i s) {}
   |false=>none
  |.dptr cs=>k (.dptr cs) {}
  |.clo f cs=>k (.clo f cs) {}
  |.bnd f cs=>k (.bnd f cs) {}
  |_=>none
 |.binOp op T x y _=>match VY P T with
  |some n=>match cells? (ρ x),cells? (ρ y),Tg (ρ x)&&Tg (ρ y)with
   |some cs,some ds,true=>match BL n cs ds,op with
    |some b,.eql=>k (.data .bool b) {}
    |some b,.neq=>k (.data .bool (!b)) {}
    |_,_=>none
   |_,_,_=>none
  |none=>match ρ x,ρ y with
   |.data (.int j) a,.data (.int j') b=>match op with
    |.shl=>match shl? j a b with
     |some n=>k (.data (.int j) n) {}
     |none=>none
    |.shr=>match shr? j a b with
     |some n=>k (.data (.int j) n) {}
     |none=>none
    |.quo=>match decide (j=j')with
     |true=>match quo? j a b with
      |some n=>k (.data (.int j) n) {}
      |none=>none
     |false=>none
    |.rem=>match decide (j=j')with
     |true=>match rem? a b with
      |some n=>k (.data (.int j) n) {}
      |none=>none
     |false=>none
    |op=>match decide (j=j'),AaF op j a b with
     |true,some v=>k v {}
     |_,_=>none
   |.data .bool a,.data .bool b=>match op,P.underlying T with
    |.eql,some .bool=>k (.data .bool (a==b)) {}
    |.neq,some .bool=>k (.data .bool (!(a==b))) {}
    |_,_=>none
   |.str a,.str b=>match op with
    |.eql=>k (.data .bool (seq? a b)) {}
    |.neq=>k (.data .bool (!(seq? a b))) {}
    |_=>none
   |_,_=>none
 |.unOp op _ x=>match op,ρ x with
  |.not,.data .bool b=>k (.data .bool (!b)) {}
  |.neg,.data (.int j) n=>k (.data (.int j) (j.wrap (0-n))) {}
  |_,_=>none
 |.convert src dst x=>match ρ x,(P.underlying src).isSome,Ll P dst with
  |.data (.int _) n,true,some j=>k (.data (.int j) (j.wrap n)) {}
  |x,_,_=>match AA4 P src,Aam P dst with
   |true,true=>match Eo H (.slice (.int .u8)) x with
    |some (xs,_)=>k (.str (AF3 xs)) {}
    |none=>none
   |_,_=>none
 |.makeFunc (.func f) first cs=>match first.toList with
  |[]=>k (.clo f (cs.toList.map ρ)) {}
  |x::xs=>match cs.toList with
   |[]=>k (.bnd f ((x::xs).map ρ)) {}
   |_::_=>none
 |.makeMap T none=>match P.underlying T with
  |some (.map a b)=>match E.rows,Ll P a,sliceAt P b with
   |true,some j,some (e,t)=>(match At H fz slot with|true=>k (.mp slot) { objs:=[(slot,.rows (.map j []) e t [] 0 none)] }|false=>none)
   |_,_,_=>match ZV P a,ALI P b with
   |some a,some b=>(match At H fz slot with|true=>k (.mp slot) { objs:=[(slot,.map a b [])] }|false=>none)
   |_,_=>none
  |_=>none
 |.makeSlice T l c=>match sliceAt P T with
  |some (e,t)=>match zeroAt P e,ρ l,ρ c with
   |some _,.data (.int _) l,.data (.int _) c=>match DM l&&DM c&&ile l c&&decide (((P.info? e).map (·.bytes)).getD 65537≤65536)with
    |true=>(match At H fz slot with|true=>k (.own slot) { objs:=[(slot,Qq P E e t (AO l))] }|false=>none)
    |false=>none
   |_,_,_=>none
  |none=>none
 |.slice T x lo hi mx=>match P.underlying T with
  |some (.slice e)=>match mx with
   |none=>match Eb ρ lo,Eb ρ hi with
    |some lo,some hi=>Gb H (BJ P e) (ρ x) lo hi R fun v=>k v {}
    |_,_=>none
   |some m=>match hi with
    |some (.tmp h)=>match Eb ρ lo,AKQ (ρ (.tmp h)),AKQ (ρ m)with
     |some lo,some n,some n'=>match ρ x with
      |.data (.slice t) xs=>match decide (BJ P e=some t.size)with
       |true=>match ieq n n' with
        |true=>match Cj xs (lo.getD 0) n with
         |none=>none
         |some ys=>k (.clip t ys) {}
        |false=>none
       |false=>none
      |_=>none
     |_,_,_=>none
    |hi=>match Eb ρ lo,Eb ρ hi,AKQ (ρ m),sliceAt P T with
     |some none,some (some 0),some 0,some (_,t)=>match F8 H (ρ x),BJ P e with
      |true,some _=>(match At H fz slot with|true=>k (.own slot) { objs:=[(slot,.arr e t [])] }|false=>none)
      |_,_=>none
     |_,_,_,_=>none
  |some (.array n e)=>match mx,Eb ρ lo,Eb ρ hi,ρ x with
   |none,some lo,some hi,.aptr id n'=>match H[id]? with
    |some (.arr _ t xs)=>match decide (n'=n)&&decide (BJ P e=some t.size)with
     |true=>match Cj xs (lo.getD 0) (hi.getD (AK xs))with
      |none=>none
      |some ys=>k (.win id (AO (lo.getD 0)) (AO (AK ys))) {}
     |false=>none
    |_=>none
   |_,_,_,_=>none
  |_=>none
 |.fieldAddr T x f=>match fieldAt P T f with
  |none=>none
  |some (off,size,_)=>match decide (size=0)with
   |true=>none
   |false=>match ρ x with
    |.ptr id o=>match JC H id with
     |true=>k (.ptr id (o+off)) {}
     |false=>none
    |.eptr id i s=>match Cf H id with
     |true=>k (.eptr id i (s+off)) {}
     |false=>none
    |.dptr cs=>k (.dptr (cs.drop off)) {}
    |_=>none
 |.field T x f=>match fieldAt P T f with
  |none=>none
  |some (off,size,ag)=>match cells? (ρ x),Tg (ρ x)with
   |some vs,true=>match loadCells ag size (vs.drop off)with
    |some v=>k v {}
    |none=>none
   |_,_=>none
 |.indexAddr T x i=>match P.underlying T,ρ i with
  |some (.slice e),.data (.int _) i=>match ρ x with
   |.data (.slice t) xs=>match decide (BJ P e=some t.size)with
    |true=>match idx xs i with
     |some d=>k (.dptr (BS t d)) {}
     |none=>none
    |false=>none
   |.own id=>match H[id]? with
    |some (.arr _ t xs)=>match decide (BJ P e=some t.size)with
     |true=>match idx xs i with
      |some _=>k (.eptr id (AO i) 0) {}
      |none=>none
     |false=>none
    |some (.prs _ _ is)=>match decide (BJ P e=some 1)with
     |true=>match idx is i with
      |some _=>k (.eptr id (AO i) 0) {}
      |none=>none
     |false=>none
    |some (.rows (.arr _) _ _ xs _ _)=>match decide (BJ P e=some 1)with
     |true=>match idx xs i with
      |some _=>k (.eptr id (AO i) 0) {}
      |none=>none
     |false=>none
    |_=>none
   |.win id off n=>match H[id]? with
    |some (.arr _ t xs)=>match decide (BJ P e=some t.size)with
     |true=>match idx (DS off n xs) i with
      |some _=>k (.eptr id (off+AO i) 0) {}
      |none=>none
     |false=>none
    |_=>none
   |_=>none
  |some (.array n e),.data (.int _) i=>match AGv H n (ρ x)with
   |some (id,s,len)=>match decide (BJ P e=some s)with
    |true=>match ile 0 i&&(ilt i (n:Int)&&ilt i len)with
     |true=>k (.eptr id (AO i) 0) {}
     |false=>none
    |false=>none
   |none=>match gAt (ρ x)with
   |some (kk,ns)=>match decide (BJ P e=some 1)with
    |true=>match ile 0 i&&(ilt i (n:Int)&&ilt i (AK ns))with
     |true=>k (.dptr [.data (.int kk) (Ac ns (AO i) 0)]) {}
     |false=>none
    |false=>none
   |none=>match BJ P e,decide (0≤i∧i<(n:Int))with
   |some s,true=>match ρ x with
    |.ptr id o=>match JC H id with
     |true=>k (.ptr id (o+i.toNat*s)) {}
     |false=>none
    |.eptr id j o=>match Cf H id with
     |true=>k (.eptr id j (o+i.toNat*s)) {}
     |false=>none
    |.dptr cs=>k (.dptr (cs.drop (i.toNat*s))) {}
    |_=>none
   |_,_=>none
  |_,_=>none
 |.index T x i=>match AGA x with
  |some s=>match P.underlying T,ρ i with
   |some .string,.data (.int _) i=>match idx (bytesOf s) i with
    |some b=>k (.data (.int .u8) b) {}
    |none=>none
   |_,_=>none
  |none=>match E.arrs with
   |true=>match elemAt P T,P.underlying T,ρ i with
    |some (1,false),some (.array n e),.data (.int _) i=>match cells? (ρ x),Tg (ρ x),Ll P e with
     |some vs,true,some kk=>match Qz kk vs with
      |some ns=>match decide (ns.length=n)with
       |true=>match idx ns i with
        |none=>none
        |some d=>k (.data (.int kk) d) {}
       |false=>none
      |none=>none
     |_,_,_=>none
    |_,_,_=>none
   |false=>match elemAt P T,P.underlying T,ρ i with
   |some (size,ag),some (.array n _),.data (.int _) i=>match decide (0≤i∧i<(n:Int))with
    |true=>match cells? (ρ x),Tg (ρ x)with
     |some vs,true=>match loadCells ag size (vs.drop (i.toNat*size))with
      |some v=>k v {}
      |none=>none
     |_,_=>none
    |false=>none
   |_,_,_=>none
 |.lookup T m x ok=>match P.underlying T,ρ m with
  |some (.map kt vt),.mp id=>match H[id]? with
   |some (.map a b es)=>match decide (ZV P kt=some a),zeroAt P vt with
    |true,some (b',_)=>match decide (b'=b),Eo H a (ρ x)with
     |true,some (key,_)=>match ok with
      |true=>k (.tup [.data b ((AS (α:=a.den) es key).getD b.zero),.data .bool (AS (α:=a.den) es key).isSome]) {}
      |false=>k (.data b ((AS (α:=a.den) es key).getD b.zero)) {}
     |_,_=>none
    |_,_=>none
   |some (.rows (.map j ks) e _ _ ver none)=>match decide (Ll P kt=some j),sliceAt P vt,(zeroAt P vt).isSome && !ok with
    |true,some (e',_),true=>match decide (e'=e),Eo H (.int j) (ρ x)with
     |true,some (key,_)=>k (.rowp id (C2 ks key) ver) {}
     |_,_=>none
    |_,_,_=>none
   |_=>none
  |some (.map kt vt),.data (.mapi j b) es=>match decide (Ll P kt=some j),zeroAt P vt with
   |true,some (b',_)=>match decide (b'=b) && !b.isAgg,Eo H (.int j) (ρ x)with
    |true,some (key,_)=>match ok with
     |true=>k (.tup [.data b ((AS (α:=Int) es key).getD b.zero),.data .bool (AS (α:=Int) es key).isSome]) {}
     |false=>k (.data b ((AS (α:=Int) es key).getD b.zero)) {}
    |_,_=>none
   |_,_=>none
  |_,_=>none
 |.mapUpdate T m x v=>match P.underlying T,ρ m with
  |some (.map kt _),.mp id=>match H[id]? with
   |some (.map a b es)=>match decide (ZV P kt=some a),Eo H a (ρ x),Eo H b (ρ v)with
    |true,some (key,_),some (val,fr)=>k .junk { objs:=[(id,.map a b (Ah (α:=a.den) es key val))],frz:=fr }
    |_,_,_=>none
   |some (.rows (.map j ks) e t xs ver (some i'))=>match decide (Ll P kt=some j)&&Aj fz id,Eo H (.int j) (ρ x),ρ v with
    |true,some (key,_),.rowp id' i ver'=>match decide (id=id')&&decide (ver=ver')with
     |true=>match ieq (i:Int) (i':Int)&&ieq (C2 ks key:Int) (i':Int)with
      |true=>k .junk { objs:=[(id,.rows (.map j (MA ks i' key)) e t xs ver none)] }
      |false=>none
     |false=>none
    |_,_,_=>none
   |_=>none
  |_,_=>none
 |.insert T m x v=>match P.underlying T,ρ m with
  |some (.map kt _),.mp id=>match H[id]? with
   |some (.map a b es)=>match decide (ZV P kt=some a),Eo H a (ρ x),Eo H b (ρ v)with
    |true,some (key,_),some (val,fr)=>k .junk { objs:=[(id,.map a b (Ah (α:=a.den) es key val))],frz:=fr }
    |_,_,_=>none
   |_=>none
  |_,_=>none
 |.mapEntry T m x=>match P.underlying T,ρ m with
  |some (.map kt vt),.mp id=>match H[id]? with
   |some (.map a b es)=>match decide (ZV P kt=some a),zeroAt P vt,Eo H a (ρ x)with
    |true,some (b',_),some (key,_)=>match decide (b'=b)with
     |true=>k (.tup [.data b ((AS (α:=a.den) es key).getD b.zero),.data (.int .i64) (AHz (α:=a.den) es key)]) { objs:=[(id,.map a b (Ah (α:=a.den) es key ((AS (α:=a.den) es key).getD b.zero)))] }
     |false=>none
    |_,_,_=>none
   |_=>none
  |_,_=>none
 |.entryStore _ m s v=>match ρ m,ρ s with
  |.mp id,.data (.int .i64) i=>match H[id]? with
   |some (.map a b es)=>match Eo H b (ρ v)with
    |some (val,fr)=>match(ile (0:Int) i&&ilt i (AK es))with
     |true=>k .junk { objs:=[(id,.map a b (AeU es i val))],frz:=fr }
     |false=>none
    |none=>none
   |_=>none
  |_,_=>none
 |.extract x i=>match ρ x with
  |.tup vs=>match vs[i]? with
   |some v=>k v {}
   |none=>none
  |_=>none
 |.call { callee:=.builtin .len,args,argTypes }=>match args.toList,argTypes.toList with
  |[x],[T]=>match P.underlying T with
   |some (.slice _)=>match ρ x with
    |.data (.slice _) xs=>k (.data (.int .i64) (AK xs)) {}
    |.nils _=>k (.data (.int .i64) (0:Int)) {}
    |.own id=>match H[id]? with
     |some (.arr _ _ xs)=>k (.data (.int .i64) (AK xs)) {}
     |some (.prs _ _ is)=>k (.data (.int .i64) (AK is)) {}
     |_=>none
    |.win id _ n=>match Cf H id with
     |true=>k (.data (.int .i64) (n:Int)) {}
     |false=>none
    |_=>none
   |some (.map _ _)=>match ρ x with
    |.mp id=>match H[id]? with
     |some (.map _ _ es)=>k (.data (.int .i64) (AK es)) {}
     |_=>none
    |_=>none
   |_=>none
  |_,_=>none
 |.call { callee:=.builtin .append,args,argTypes }=>match args.toList,argTypes.toList with
  |[s,x],[T,T']=>match sliceAt P T,decide (T=T')with
   |some (e,t),true=>match Eo H (.slice t) (ρ x),zeroAt P e,(P.info? e).map (fun i=>decide (i.bytes≤1024))with
    |some (ys,_),some _,some true=>match ρ s with
     |.nils _=>match fits (AK ys)with
      |true=>(match At H fz slot with|true=>k (.own slot) { objs:=[(slot,.arr e t ys)] }|false=>none)
      |false=>none
     |.clip _ xs=>match(Mt xs:Option (List t.den)),ys.isEmpty with
      |some xs,false=>match fits (AK xs+AK ys)with
       |true=>(match At H fz slot with|true=>k (.own slot) { objs:=[(slot,.arr e t (A1 xs ys))] }|false=>none)
       |false=>none
      |_,_=>none
     |.own id=>match H[id]? with
      |some (.arr e' _ xs)=>match Aj fz id&&decide (e=e')with
       |true=>match(Mt xs:Option (List t.den))with
        |some xs=>match fits (AK xs+AK ys)with
         |true=>match E.keep with
          |true=>k (.data (.slice t) (A1 xs ys)) { frz:=[id] }
          |false=>(match At H fz slot with|true=>k (.own slot) { objs:=[(id,.dead),(slot,.arr e t (A1 xs ys))] }|false=>none)
         |false=>none
        |none=>none
       |false=>none
      |_=>none
     |.rowp id i ver=>match H[id]? with
      |some (.rows K e' t' xs ver' none)=>match Aj fz id&&(decide (e=e')&&decide (ver=ver'))with
       |true=>match(Mt (t:=.slice t') xs:Option (List (Ty.slice t).den))with
        |some xs=>match fits (AK (Ac xs i [])+AK ys)with
         |true=>k (.rowp id i (ver+1)) { objs:=[(id,.rows K e t (K.put xs i (A1 (Ac xs i []) ys)) (ver+1) (some i))] }
         |false=>none
        |none=>none
       |false=>none
      |_=>none
     |.win id 0 n=>match H[id]? with
      |some (.arr e' _ xs)=>match Aj fz id&&decide (e=e')with
       |true=>match(Mt xs:Option (List t.den))with
        |some xs=>match fits ((n:Int)+AK ys)with
         |true=>(match At H fz slot with|true=>k (.own slot) { objs:=[(id,.dead),(slot,.arr e t (A1 (B0 n xs) ys))] }|false=>none)
         |false=>none
        |none=>none
       |false=>none
      |_=>none
     |_=>none
    |_,_,_=>none
   |some (e,t),false=>match ρ s,ρ x,zeroAt P e,Ll P T',(P.info? e).map (fun i=>decide (i.bytes≤1024))with
    |.nils _,.data (.int _) n,some _,some _,some true=>match DM n with
     |true=>(match At H fz slot with|true=>k (.own slot) { objs:=[(slot,.arr e t (D6 (AO n) t.zero))] }|false=>none)
     |false=>none
    |_,_,_,_,_=>none
   |none,true=>match cellAt P T,ρ x with
    |some e,.own ix=>match H[ix]? with
     |some (.prs e1 tgt ys)=>match decide (e1=e)with
      |true=>match ρ s with
       |.nils _=>match fits (AK ys)with
        |true=>(match At H fz slot with|true=>k (.own slot) { objs:=[(slot,.prs e tgt ys)] }|false=>none)
        |false=>none
       |.own id=>match H[id]? with
        |some (.prs e2 tgt2 xs)=>match decide (e2=e)&&decide (tgt2=tgt)with
         |true=>match fits (AK xs+AK ys)with
          |true=>(match At H fz slot with|true=>k (.own slot) { objs:=[(id,.dead),(slot,.prs e tgt (A1 xs ys))] }|false=>none)
          |false=>none
         |false=>none
        |_=>none
       |_=>none
      |false=>none
     |_=>none
    |_,_=>none
   |_,_=>none
  |_,_=>none
 |.call { callee:=.builtin .cap,args,argTypes }=>match args.toList,argTypes.toList with
  |[x],[T]=>match P.underlying T,ρ x with
   |some (.slice _),.nils _=>k (.data (.int .i64) (0:Int)) {}
   |_,_=>none
  |_,_=>none
 |.call { callee:=.builtin .min,args,.. }=>match args.toList with
  |[x,y]=>match ρ x,ρ y with
   |.data (.int j) a,.data (.int _) b=>k (.data (.int j) (Cp a b)) {}
   |_,_=>none
  |_=>none
 |.call { callee:=.builtin .max,args,.. }=>match args.toList with
  |[x,y]=>match ρ x,ρ y with
   |.data (.int j) a,.data (.int _) b=>k (.data (.int j) (imax a b)) {}
   |_,_=>none
  |_=>none
 |.call { callee:=.builtin .clear,args,argTypes }=>match args.toList,argTypes.toList with
  |[x],[T]=>match sliceAt P T with
   |some (e,t)=>match zeroAt P e with
    |some _=>match ρ x with
     |.nils _=>k .junk {}
     |.own id=>match H[id]? with
      |some (.arr e' t' xs)=>match Aj fz id&&decide (t=t')with
       |true=>k .junk { objs:=[(id,.arr e' t' (CL 0 xs.length t'.zero xs))] }
       |false=>none
      |_=>none
     |.win id off n=>match H[id]? with
      |some (.arr e' t' xs)=>match Aj fz id&&decide (t=t')with
       |true=>k .junk { objs:=[(id,.arr e' t' (CL off n t'.zero xs))] }
       |false=>none
      |_=>none
     |_=>none
    |none=>none
   |none=>none
  |_,_=>none
 |.call { callee:=.value f,args,.. }=>match ρ f with
  |.clo g caps=>E.spec g R (args.toList.map ρ++caps) H fz slot k
  |.bnd g fs=>E.spec g R (fs++args.toList.map ρ) H fz slot k
  |_=>none
 |_=>none
def St.put(s:St)(d:Option Tmp)(v:AV):St:=
 match d with
 |some d=>{ s with tmps:=s.tmps.set d v }
 |none=>s
def CO(e:Eff)(H:List Ob):List Ob:=A9 e.objs (match e.heap with
 |none=>H
 |some p=>p.1)
def GR(e:Eff)(fz:List Bool):List Bool:=Ak e.frz (match e.heap with
 |none=>fz
 |some p=>p.2)
def St.app(s:St)(e:Eff):St:={ s with heap:=CO e s.heap,frz:=GR e s.frz }
def BV:AV:=.tup []
def guarded(R:Type)(all:List Oper)(g:Option (Nat×Bool))(st:St)(yes no:St→Option R):Option R:=
 match g with
 |none=>yes st
 |some (j,want)=>match(all[j]?).bind (·.dst)with
  |none=>none
  |some d=>match st.tmps[d]? with
   |some (.data .bool b)=>match b with
    |true=>match want with
     |true=>yes { st with tmps:=st.tmps.set d (.data .bool true) }
     |false=>no { st with tmps:=st.tmps.set d (.data .bool true) }
    |false=>match want with
     |true=>no { st with tmps:=st.tmps.set d (.data .bool false) }
     |false=>yes { st with tmps:=st.tmps.set d (.data .bool false) }
   |some (.tup [])=>no st
   |_=>none
def Jq[Lk](P:Program)(E:Env)(R:Type)(all:List Oper):List Oper→Nat→St→(St→Option R)→Option R
 |[],_,st,k=>k st
 |o::rest,slot,st,k=>
  guarded R all o.guard st
   (fun st=>evalOp P E R o.op o.type (BW st.tmps) st.heap st.frz slot fun v e=>Jq P E R all rest (slot+slotsOf o.op) ((st.app e).put o.dst v) k)
   (fun st=>Jq P E R all rest (slot+slotsOf o.op) (st.put o.dst BV) k)
def FK(ops:List Oper):Nat:=(ops.map fun o=>slotsOf o.op).foldr (· + ·) 0
def St.pad(s:St)(n:Nat):St:={ s with heap:=s.heap++List.replicate n .free,frz:=s.frz++List.replicate n false }
def Hi[Lk](P:Program)(E:Env)(R:Type)(ops:List Oper)(st:St)(k:St→Option R):Option R:=
 Jq P E R ops ops st.heap.length (st.pad (FK ops)) k
mutual
def Am:AV→List Nat
 |.agg cs=>BH cs
 |.own id=>[id]
 |.win id _ _=>[id]
 |.ptr id _=>[id]
 |.eptr id _ _=>[id]
 |.dptr cs=>BH cs
 |.clo _ cs=>BH cs
 |.bnd _ cs=>BH cs
 |.mp id=>[id]
 |.rowp id _ _=>[id]
 |.aptr id _=>[id]
 |.tup vs=>BH vs
 |_=>[]
def BH:List AV→List Nat
 |[]=>[]
 |v::vs=>Am v++BH vs
end
def G7(ρ:Operand→AV)(o:Op):List Nat:=o.operands.toList.flatMap fun x=>Am (ρ x)
def EB(ρ:Operand→AV)(o:Op):List Nat:=
 match o with
 |.move _=>[]
 |.assign _=>[]
 |.pick _ _ _=>[]
 |.extract _ _=>[]
 |.build _ _=>[]
 |.makeFunc _ _ _=>[]
 |.store T a x=>match ρ a with
  |.ptr id _=>[id]
  |_=>G7 ρ (.store T a x)
 |o=>G7 ρ o
def writer:Op→Bool
 |.store ..=>true
 |.mapUpdate ..=>true
 |.insert ..=>true
 |.mapEntry ..=>true
 |.entryStore ..=>true
 |.call { callee:=.builtin .append,.. }=>true
 |.call { callee:=.builtin .clear,.. }=>true
 |_=>false
def Gh(E:Env)(ρ:Operand→AV):Op→Bool
 |.call { callee:=.value f,.. }=>match ρ f with
  |.clo g _=>E.loc g
  |.bnd g _=>E.loc g
  |_=>false
 |_=>true
def rd(φ:List Nat)(i:Nat):Bool:=φ.contains (2*i)||φ.contains (2*i+1)
def wt(φ:List Nat)(i:Nat):Bool:=φ.contains (2*i+1)
def EE(ρ:Operand→AV)(o:Op):List Nat:=
 match o with
 |.store _ a _=>Am (ρ a)
 |.mapUpdate _ m _ _=>Am (ρ m)
 |.insert _ m _ _=>Am (ρ m)
 |.mapEntry _ m _=>Am (ρ m)
 |.entryStore _ m _ _=>Am (ρ m)
 |.call { callee:=.builtin .append,args,.. }=>match args.toList with
  |s::_=>Am (ρ s)
  |[]=>[]
 |.call { callee:=.builtin .clear,args,.. }=>match args.toList with
  |s::_=>Am (ρ s)
  |[]=>[]
 |_=>[]
def within(l φ:List Nat):Bool:=l.all (rd φ)
def Rq(l φ:List Nat):Bool:=l.all (wt φ)
def AKe(wr:Bool)(φ:List Nat)(slot n:Nat)(e:Eff):Bool:=
 e.heap.isNone&&(e.objs.all fun p=>(decide (slot≤p.1)&&decide (p.1<slot+n))||(wr&&wt φ p.1))&&within e.frz φ
def Bm:Op→Bool
 |.move _=>true
 |.assign _=>true
 |.pick _ _ _=>true
 |.binOp _ _ _ _ _=>true
 |.unOp _ _ _=>true
 |.extract _ _=>true
 |_=>false
def QQ(φ:List Nat):Bool:=φ.contains 1000003
def GL:Op→Bool
 |.load _ _=>true
 |.convert _ _ _=>true
 |.fieldAddr _ _ _=>true
 |.field _ _ _=>true
 |.indexAddr _ _ _=>true
 |.index _ _ _=>true
 |.nilCheck _=>true
 |.lookup _ _ _ _=>true
 |.slice _ _ _ _ none=>true
 |.build _ _=>true
 |.makeFunc (.func _) _ _=>true
 |.call { callee:=.builtin .len,.. }=>true
 |o=>Bm o
def AAB(φ:List Nat):Bool:=φ.contains 1000005
def W8(E:Env)(ρ:Operand→AV):Op→Bool
 |.call { callee:=.value f,.. }=>match ρ f with
  |.clo g _=>E.loc2 g
  |.bnd g _=>E.loc2 g
  |_=>false
 |_=>false
def PH(φ:List Nat)(H:List Ob):Bool:=φ.all fun c=>match H[c/2]? with
 |some (.box cs)=>(BH cs).all (wt φ)
 |_=>true
def M3(E:Env)(ρ:Operand→AV)(o:Op)(φ:List Nat)(H:List Ob):Bool:=
 (G7 ρ o).all (wt φ)&&PH φ H&&(φ.all fun c=>c % 2==1)&&W8 E ρ o
def Yo[Lk](P:Program)(E:Env)(R:Type)(all:List Oper)(o:Oper)(φ:List Nat)(slot:Nat)(st:St)(k:St→Option R):Option R:=
 guarded R all o.guard st
  (fun st=>match QQ φ||((AAB φ&&M3 E (BW st.tmps) o.op φ st.heap)||(!(AAB φ)&&(within (EB (BW st.tmps) o.op) φ&&Rq (EE (BW st.tmps) o.op) φ&&Gh E (BW st.tmps) o.op)))with
   |true=>evalOp P E R o.op o.type (BW st.tmps) st.heap st.frz slot fun v e=>match QQ φ||AKe (writer o.op||AAB φ) φ slot (slotsOf o.op) e with
    |true=>k ((st.app e).put o.dst v)
    |false=>none
   |false=>none)
  (fun st=>k (st.put o.dst BV))
def JA[Lk](P:Program)(E:Env)(R:Type)(all:List Oper):List Oper→List (List Nat)→Nat→St→(St→Option R)→Option R
 |[],_,_,st,k=>k st
 |o::rest,fp,slot,st,k=>Yo P E R all o (fp.headD []) slot st fun st=>JA P E R all rest fp.tail (slot+slotsOf o.op) st k
def apart?(ops:List Oper)(x y:Oper):Bool:=Oper.apart ops.toArray x y
def AAy:Op→Op→Bool
 |.lookup _ _ _ ok,.mapEntry _ _ _ => !ok
 |_,_=>false
def indep(all:List Oper)(x y:Oper)(φx φy:List Nat)(sx sy:Nat):Bool:=
 apart? all x y&&((QQ φx&&Bm y.op)||(QQ φy&&Bm x.op)||(!(QQ φx) && !(QQ φy)&&(φy.all fun c => !(decide (sx≤c/2)&&decide (c/2<sx+slotsOf x.op)))&&(φx.all fun c => !(decide (sy≤c/2)&&decide (c/2<sy+slotsOf y.op))) &&
  (φx.all fun c=>decide (c % 2=0) || !(rd φy (c/2)))&&(φy.all fun c=>decide (c % 2=0) || !(rd φx (c/2))))||(!(AAB φx)&&(!(AAB φy)&&AAy x.op y.op)))
def AOH(y:Oper)(i:Nat):Bool:=y.after.toList.any fun e=>Region.binds .any e&&decide (e.on=i)
def reach(all:List Oper):Nat→Oper→Nat→Bool
 |0,_,_=>false
 |n+1,y,i=>AOH y i||y.after.toList.any fun e=>Region.binds .any e&&match all[e.on]? with
  |some z=>reach all n z i
  |none=>false
def AAv(all:List Oper)(y:Oper)(φy:List Nat)(sy:Nat):List (Nat×Oper×List Nat×Nat)→Bool
 |[]=>true
 |(i,x,φx,sx)::r=>(AOH y i||(indep all x y φx φy sx sy||reach all 8 y i))&&AAv all y φy sy r
def ANQ(all:List Oper):List Oper→List (List Nat)→Nat→Nat→List (Nat×Oper×List Nat×Nat)→Bool
 |[],_,_,_,_=>true
 |o::rest,fp,i,slot,acc=>AAv all o (fp.headD []) slot acc&&(o.after.toList.all fun e => !Region.binds .any e||decide (e.on<i)) &&
  ANQ all rest fp.tail (i+1) (slot+slotsOf o.op) ((i,o,fp.headD [],slot)::acc)
def EZ[Lk](P:Program)(E:Env)(R:Type)(fp:List (List Nat))(ops:List Oper)(st:St)(k:St→Option R):Option R:=
 match P.follows .mixedOrders&&ANQ ops ops fp 0 st.heap.length []with
 |true=>JA P E R ops ops fp st.heap.length (st.pad (FK ops)) k
 |false=>none
def loops:Code→Nat
 |.seq a b=>loops a+loops b
 |.cond _ a b=>loops a+loops b
 |.block _ c=>loops c
 |.scope c=>loops c
 |.loop c=>loops c+1
 |_=>0
def QY(tmps:List AV)(c:Operand)(b:Bool):List AV:=
 match c with
 |.tmp t=>tmps.set t (.data .bool b)
 |_=>tmps
def BF[Lk](P:Program)(E:Env)(h:Hints)(R:Type):Code→Nat→St→(Exit→St→Option R)→Option R
 |.skip,_,st,k=>k .normal st
 |.region id ops draw,_,st,k=>match draw with
  |false=>Hi P E R ops.toList st (k .normal)
  |true=>EZ P E R (h.fp id) ops.toList st (k .normal)
 |.seq a b,n,st,k=>BF P E h R a n st fun e st=>match e with
  |.normal=>BF P E h R b (n+loops a) st k
  |e=>k e st
 |.cond c a b,n,st,k=>match BW st.tmps c with
  |.data .bool x=>match x with
   |true=>BF P E h R a n { st with tmps:=QY st.tmps c true } k
   |false=>BF P E h R b (n+loops a) { st with tmps:=QY st.tmps c false } k
  |_=>none
 |.block id c,n,st,k=>BF P E h R c n st fun e st=>match e with
  |.exit id'=>match decide (id'=id)with
   |true=>k .normal st
   |false=>k (.exit id') st
  |e=>k e st
 |.loop _,n,st,k=>h.loop n R st k
 |.exit id,_,st,k=>k (.exit id) st
 |.ret,_,st,k=>k .ret st
 |_,_,_,_=>none
def SR(P:Program)(st:St):ResultVar→Option AV
 |.tmp t=>some (st.tmps.getD t .junk)
 |.cell t T=>match BW st.tmps (.tmp t),BJ P T,EI P T with
  |.ptr id off,some n,some ag=>match st.heap[id]? with
   |some (.box cs)=>loadCells ag n (cs.drop off)
   |_=>none
  |_,_,_=>none
def DP(P:Program)(st:St):List ResultVar→Option (List AV)
 |[]=>some []
 |r::rs=>match SR P st r with
  |none=>none
  |some v=>match DP P st rs with
   |none=>none
   |some vs=>some (v::vs)
end
end Go.Pev
end
section
namespace Go.Pev
noncomputable section
inductive Loc where
 |tmp (t:Nat)
 |cell (j c:Nat)
 |cap (t i:Nat)
 |obj (j:Nat)
inductive Con where
 |dat (t:Ty)
 |own (T:TypeId) (e:Ty)
 |box (n:Nat)
 |map (k v:Ty)
 |own' (j:Nat)
 |ptr' (j off:Nat)
 |map' (j:Nat)
 |win' (j:Nat)
 |sub' (j:Nat)
 |clo (f:FuncId) (ps:List (Nat×Nat))
 |bnd (f:FuncId) (j:Nat)
 |prs (T:TypeId) (j:Nat)
 |nil (e:Ty)
 |rows (T e:TypeId) (t:Ty)
 |mrows (j:IntKind) (e:TypeId) (t:Ty)
 |aptr (T:TypeId) (e:Ty) (n:Nat)
 |aptr' (j n:Nat)
 |bndp (f:FuncId) (j:Nat)
 |nilp
abbrev Con.di:Con:=.dat (.int .i64)
abbrev AE:=List (Loc×Con)
def leaves:AE→List Ty
 |[]=>[]
 |(_,.dat t)::r=>t::leaves r
 |(_,.own _ e)::r=>.slice e::leaves r
 |(_,.map k v)::r=>.slice (.prod k v)::leaves r
 |(_,.win' _)::r=>.int .i64::leaves r
 |(_,.prs _ _)::r=>.slice (.int .i64)::leaves r
 |(_,.sub' _)::r=>.int .i64 :: .int .i64::leaves r
 |(_,.rows _ _ t)::r=>.slice (.slice t)::leaves r
 |(_,.mrows j _ t)::r=>.mapi j (.slice t)::leaves r
 |(_,.aptr _ e _)::r=>.slice e::leaves r
 |(_,_)::r=>leaves r
inductive Bnd where
 |none
 |whole (id:Nat)
 |cut (id:Nat)
 deriving DecidableEq
def Bnd.id? : Bnd→Option Nat
 |.none=>Option.none
 |.whole id=>some id
 |.cut id=>some id
def Amt(H:List Ob)(j:Nat):Option AV:=
 match H[j]? with
 |some (.arr _ _ _)=>some (.own j)
 |some (.box _)=>some (.ptr j 0)
 |some (.map _ _ _)=>some (.mp j)
 |some (.prs _ _ _)=>some (.own j)
 |some (.rows (.arr _) _ _ _ _ _)=>some (.own j)
 |some (.rows (.map _ _) _ _ _ _ _)=>some (.mp j)
 |_=>none
def look(tm:List AV)(H:List Ob)(bs:List Bnd):Loc→Option AV
 |.tmp t=>tm[t]?
 |.cell j c=>match bs[j]? with
  |some (.whole id)=>match H[id]? with
   |some (.box cs)=>cs[c]?
   |_=>none
  |_=>none
 |.cap t i=>match tm[t]? with
  |some (.clo _ cs)=>cs[i]?
  |some (.bnd _ cs)=>cs[i]?
  |_=>none
 |.obj j=>Amt H j
def Afo(bs:List Bnd):List AV→List (Nat×Nat)→Bool
 |[],[]=>true
 |.ptr id o::vs,(j,o')::ps=>(match bs[j]? with
  |some (.whole id')=>decide (id=id')&&decide (o=o')
  |_=>false)&&Afo bs vs ps
 |_,_=>false
def fresh?(bs:List Bnd)(id:Nat):Bool:=bs.all fun b=>match b with
 |.none=>true
 |.whole i => !(decide (i=id))
 |.cut i => !(decide (i=id))
abbrev Aof(α:Type):=Option (α×List Bnd×List Nat)
def dec(tm:List AV)(H:List Ob):(its:AE)→List Bool→List Bnd→Aof (B6 (leaves its))
 |[],_,bs=>some ((),bs,[])
 |(l,.dat t)::r,fz,bs=>match look tm H bs l with
  |some v=>match Zm H t v with
   |some (x,f)=>match f.all (fresh? bs)with
    |true=>match dec tm H r (Ak f fz) bs with
     |some (xs,bs',g)=>some ((x,xs),bs',f++g)
     |none=>none
    |false=>none
   |none=>none
  |none=>none
 |(l,.own T e)::r,fz,bs=>match look tm H bs l with
  |some (.nils _)=>match decide (0<e.size)with
   |true=>match dec tm H r fz (bs++[.none])with
    |some (xs,bs',g)=>some (([],xs),bs',g)
    |none=>none
   |false=>none
  |some (.own id)=>match H[id]?,Aj fz id&&fresh? bs id with
   |some (.arr T' e' ys),true=>match decide (T=T'),(Mt ys:Option (List e.den))with
    |true,some ys=>match dec tm H r fz (bs++[.whole id])with
     |some (xs,bs',g)=>some ((ys,xs),bs',g)
     |none=>none
    |_,_=>none
   |_,_=>none
  |some (.win id 0 n)=>match H[id]?,Aj fz id&&fresh? bs id with
   |some (.arr T' e' ys),true=>match decide (T=T'),(Mt ys:Option (List e.den))with
    |true,some ys=>match dec tm H r fz (bs++[.cut id])with
     |some (xs,bs',g)=>some ((B0 n ys,xs),bs',g)
     |none=>none
    |_,_=>none
   |_,_=>none
  |_=>none
 |(l,.box n)::r,fz,bs=>match look tm H bs l with
  |some (.ptr id 0)=>match H[id]?,fresh? bs id with
   |some (.box cs),true=>match decide (cs.length=n)with
    |true=>dec tm H r fz (bs++[.whole id])
    |false=>none
   |_,_=>none
  |_=>none
 |(l,.map k v)::r,fz,bs=>match look tm H bs l with
  |some (.mp id)=>match H[id]?,fresh? bs id with
   |some (.map k' v' es),true=>match(Mt (t:=.prod k' v') es:Option (List (Ty.prod k v).den))with
    |some es=>match dec tm H r fz (bs++[.whole id])with
     |some (xs,bs',g)=>some ((es,xs),bs',g)
     |none=>none
    |_=>none
   |_,_=>none
  |_=>none
 |(l,.own' j)::r,fz,bs=>match look tm H bs l,bs[j]? with
  |some (.own id),some (.whole id')=>match decide (id=id')with
   |true=>dec tm H r fz bs
   |false=>none
  |_,_=>none
 |(l,.ptr' j off)::r,fz,bs=>match look tm H bs l,bs[j]? with
  |some (.ptr id o),some (.whole id')=>match decide (id=id')&&decide (o=off)with
   |true=>dec tm H r fz bs
   |false=>none
  |_,_=>none
 |(l,.map' j)::r,fz,bs=>match look tm H bs l,bs[j]? with
  |some (.mp id),some (.whole id')=>match decide (id=id')with
   |true=>dec tm H r fz bs
   |false=>none
  |_,_=>none
 |(l,.win' j)::r,fz,bs=>match look tm H bs l,bs[j]? with
  |some (.win id 0 n),some (.whole id')=>match decide (id=id')with
   |true=>match dec tm H r fz bs with
    |some (xs,bs',g)=>some (((n:Int),xs),bs',g)
    |none=>none
   |false=>none
  |some (.own id),some (.whole id')=>match decide (id=id'),H[id]? with
   |true,some (.arr _ _ ys)=>match dec tm H r fz bs with
    |some (xs,bs',g)=>some ((AK ys,xs),bs',g)
    |none=>none
   |_,_=>none
  |_,_=>none
 |(l,.sub' j)::r,fz,bs=>match look tm H bs l,bs[j]? with
  |some (.win id off n),some (.whole id')=>match decide (id=id')with
   |true=>match dec tm H r fz bs with
    |some (xs,bs',g)=>some (((off:Int),(n:Int),xs),bs',g)
    |none=>none
   |false=>none
  |_,_=>none
 |(l,.clo f ps)::r,fz,bs=>match look tm H bs l with
  |some (.clo f' vs)=>match decide (f=f')&&Afo bs vs ps with
   |true=>dec tm H r fz bs
   |false=>none
  |_=>none
 |(l,.bnd f j)::r,fz,bs=>match look tm H bs l,bs[j]? with
  |some (.bnd f' [.own id]),some (.whole id')=>match decide (f=f')&&decide (id=id')with
   |true=>dec tm H r fz bs
   |false=>none
  |_,_=>none
 |(l,.prs T j)::r,fz,bs=>match look tm H bs l with
  |some (.nils _)=>match dec tm H r fz (bs++[.none])with
   |some (xs,bs',g)=>some ((([]:List Int),xs),bs',g)
   |none=>none
  |some (.own id)=>match H[id]?,fresh? bs id,bs[j]? with
   |some (.prs T' tgt is),true,some (.whole tgt')=>match decide (T=T')&&decide (tgt=tgt')with
    |true=>match dec tm H r fz (bs++[.whole id])with
     |some (xs,bs',g)=>some ((is,xs),bs',g)
     |none=>none
    |false=>none
   |_,_,_=>none
  |_=>none
 |(l,.nil _)::r,fz,bs=>match look tm H bs l with
  |some (.nils _)=>dec tm H r fz bs
  |_=>none
 |(l,.rows T e t)::r,fz,bs=>match look tm H bs l with
  |some (.own id)=>match H[id]?,Aj fz id&&fresh? bs id with
   |some (.rows (.arr T') e' t' ys _ none),true=>match decide (T=T')&&decide (e=e'),(Mt (t:=.slice t') ys:Option (List (Ty.slice t).den))with
    |true,some ys=>match dec tm H r fz (bs++[.whole id])with
     |some (xs,bs',g)=>some ((ys,xs),bs',g)
     |none=>none
    |_,_=>none
   |_,_=>none
  |_=>none
 |(l,.mrows j e t)::r,fz,bs=>match look tm H bs l with
  |some (.mp id)=>match H[id]?,Aj fz id&&fresh? bs id with
   |some (.rows (.map j' ks) e' t' ys _ none),true=>match decide (j=j')&&decide (e=e'),(Mt (t:=.slice t') ys:Option (List (Ty.slice t).den))with
    |true,some ys=>match dec tm H r fz (bs++[.whole id])with
     |some (xs,bs',g)=>some ((List.zip (β:=List t.den) ks ys,xs),bs',g)
     |none=>none
    |_,_=>none
   |_,_=>none
  |_=>none
 |(l,.aptr T e n)::r,fz,bs=>match look tm H bs l with
  |some (.aptr id n')=>match H[id]?,Aj fz id&&fresh? bs id with
   |some (.arr T' e' ys),true=>match decide (T=T')&&decide (n=n'),(Mt ys:Option (List e.den))with
    |true,some ys=>match dec tm H r fz (bs++[.whole id])with
     |some (xs,bs',g)=>some ((ys,xs),bs',g)
     |none=>none
    |_,_=>none
   |_,_=>none
  |_=>none
 |(l,.bndp f j)::r,fz,bs=>match look tm H bs l,bs[j]? with
  |some (.bnd f' [.ptr id 0]),some (.whole id')=>match decide (f=f')&&decide (id=id')with
   |true=>dec tm H r fz bs
   |false=>none
  |_,_=>none
 |(l,.nilp)::r,fz,bs=>match look tm H bs l with
  |some .nilp=>dec tm H r fz bs
  |_=>none
 |(l,.aptr' j n)::r,fz,bs=>match look tm H bs l,bs[j]? with
  |some (.aptr id n'),some (.whole id')=>match decide (id=id')&&decide (n=n')with
   |true=>dec tm H r fz bs
   |false=>none
  |_,_=>none
def place(st:St)(v:AV):Loc→St
 |.tmp t=>{ st with tmps:=st.tmps.set t v }
 |.cell j c=>match st.heap[j]? with
  |some (.box cs)=>{ st with heap:=st.heap.set j (.box (cs.set c v)) }
  |_=>st
 |_=>st
def Dr(st:St)(o:Ob):St:={ st with heap:=st.heap++[o],frz:=st.frz++[false] }
def enc:(its:AE)→B6 (leaves its)→St→St
 |[],_,st=>st
 |(l,.dat t)::r,d,st=>enc r d.2 (place st (.data t d.1) l)
 |(l,.own T e)::r,d,st=>enc r d.2 (place (Dr st (.arr T e d.1)) (.own st.heap.length) l)
 |(l,.box n)::r,d,st=>enc r d (place (Dr st (.box (List.replicate n .junk))) (.ptr st.heap.length 0) l)
 |(l,.map k v)::r,d,st=>enc r d.2 (place (Dr st (.map k v d.1)) (.mp st.heap.length) l)
 |(l,.own' j)::r,d,st=>enc r d (place st (.own j) l)
 |(l,.ptr' j off)::r,d,st=>enc r d (place st (.ptr j off) l)
 |(l,.map' j)::r,d,st=>enc r d (place st (.mp j) l)
 |(l,.win' j)::r,d,st=>enc r d.2 (place st (.win j 0 (AO d.1)) l)
 |(l,.sub' j)::r,d,st=>enc r d.2.2 (place st (.win j (AO d.1) (AO d.2.1)) l)
 |(l,.clo f ps)::r,d,st=>enc r d (place st (.clo f (ps.map fun p=>.ptr p.1 p.2)) l)
 |(l,.bnd f j)::r,d,st=>enc r d (place st (.bnd f [.own j]) l)
 |(l,.prs T j)::r,d,st=>enc r d.2 (place (Dr st (.prs T j d.1)) (.own st.heap.length) l)
 |(l,.nil e)::r,d,st=>enc r d (place st (.nils e) l)
 |(l,.rows T e t)::r,d,st=>enc r d.2 (place (Dr st (.rows (.arr T) e t d.1 0 none)) (.own st.heap.length) l)
 |(l,.mrows j e t)::r,d,st=>enc r d.2 (place (Dr st (.rows (.map j (List.map (α:=Int×List t.den) Prod.fst d.1)) e t (List.map (α:=Int×List t.den) Prod.snd d.1) 0 none)) (.mp st.heap.length) l)
 |(l,.aptr T e n)::r,d,st=>enc r d.2 (place (Dr st (.arr T e d.1)) (.aptr st.heap.length n) l)
 |(l,.aptr' j n)::r,d,st=>enc r d (place st (.aptr j n) l)
 |(l,.bndp f j)::r,d,st=>enc r d (place st (.bnd f [.ptr j 0]) l)
 |(l,.nilp)::r,d,st=>enc r d (place st .nilp l)
def blank(n:Nat):St:={ tmps:=List.replicate n .junk,heap:=[],frz:=[] }
def encode(n:Nat)(its:AE)(d:B6 (leaves its)):St:=enc its d (blank n)
def pins:Nat→Nat→List Bnd→Bool
 |0,_,_=>true
 |n+1,i,b::bs=>decide (b = .whole i)&&pins n (i+1) bs
 |_+1,_,[]=>false
def decode(np nt:Nat)(st:St)(its:AE):Option (B6 (leaves its)):=
 match decide (st.tmps.length=nt)with
 |true=>match dec st.tmps st.heap its st.frz []with
  |some (v,bs,_)=>match pins np 0 bs&&(st.heap.take np).all BU with
   |true=>some v
   |false=>none
  |none=>none
 |false=>none
abbrev An:=List (Exit×AE)
@[reducible] def Pk:An→Type
 |[]=>Unit
 |o::r=>B6 (leaves o.2)⊕Pk r
def ACe:Exit→Exit→Bool
 |.normal,.normal=>true
 |.ret,.ret=>true
 |.exit a,.exit b=>decide (a=b)
 |_,_=>false
def AJ4(np nt:Nat)(e:Exit)(st:St):(os:An)→Option (Pk os)
 |[]=>none
 |o::r=>match ACe e o.1 with
  |true=>match decode np nt st o.2 with
   |some d=>some (.inl d)
   |none=>none
  |false=>match AJ4 np nt e st r with
   |some x=>some (.inr x)
   |none=>none
def AKW(n:Nat){R:Type}(k:Exit→St→Option R):(os:An)→Pk os→Option R
 |[],_=>none
 |o::r,x=>match x with
  |.inl d=>k o.1 (encode n o.2 d)
  |.inr x=>AKW n k r x
def Ab{σ ρ:Type}(step:σ→Option (σ⊕ρ)):Nat→σ→Option ρ
 |0,_=>none
 |n+1,v=>match step v with
  |none=>none
  |some (.inl v')=>Ab step n v'
  |some (.inr r)=>some r
def many:Nat:=18446744073709551616
def AU[Lk]{σ ρ:Type}(step:σ→Option (σ⊕ρ))(n:Nat)(v:σ):Option ρ:=Lk.f (Ab step n v)
theorem Av{σ ρ:Type}(step:σ→Option (σ⊕ρ))(n:Nat)(v:σ):AU step n v=Ab step n v:=AJ _
def AQ4(np nt:Nat)(its:AE)(os:An)(e:Exit)(st:St):Option (B6 (leaves its)⊕Pk os):=
 match e with
 |.normal=>match decode np nt st its with
  |some d=>some (.inl d)
  |none=>none
 |e=>match AJ4 np nt e st os with
  |some x=>some (.inr x)
  |none=>none
def AZ[Lk](np nt:Nat)(its:AE)(os:An)(step:B6 (leaves its)→Option (B6 (leaves its)⊕Pk os)):AUu:=fun R st k=>
 match decode np nt st its with
 |none=>none
 |some v=>match AU step many v with
  |none=>none
  |some r=>AKW nt k os r
def roundOf[Lk](P:Program)(E:Env)(h:Hints)(n np nt:Nat)(body:Code)(its:AE)(os:An)(v:B6 (leaves its)):Option (B6 (leaves its)⊕Pk os):=
 BF P E h _ body n (encode nt its v) (AQ4 np nt its os)
inductive RS where
 |one
 |agg (n:Nat)
def Gk:List RS→List AV→Option (List AV)
 |[],[]=>some []
 |.one::r,v::vs=>match Gk r vs with
  |some l=>some (v::l)
  |none=>none
 |.agg n::r,v::vs=>match Tg v,cells? v with
  |true,some cs=>match decide (cs.length=n)with
   |true=>match Gk r vs with
    |some l=>some (cs++l)
    |none=>none
   |false=>none
  |_,_=>none
 |_,_=>none
def Gf:List RS→List AV→List AV
 |[],_=>[]
 |.one::r,vs=>vs.headD .junk::Gf r vs.tail
 |.agg n::r,vs=>.agg (vs.take n)::Gf r (vs.drop n)
def RS.cells:RS→Nat
 |.one=>1
 |.agg n=>n
def cellsOf:List RS→Nat
 |[]=>0
 |r::rs=>r.cells+cellsOf rs
def C7:AE→Nat
 |[]=>0
 |(_,.own _ _)::r=>C7 r+1
 |(_,.box _)::r=>C7 r+1
 |(_,.map _ _)::r=>C7 r+1
 |(_,.prs _ _)::r=>C7 r+1
 |(_,.rows _ _ _)::r=>C7 r+1
 |(_,.mrows _ _ _)::r=>C7 r+1
 |(_,.aptr _ _ _)::r=>C7 r+1
 |_::r=>C7 r
def IH:AE→Bool
 |[]=>true
 |(_,.rows _ _ _)::_=>false
 |(_,.mrows _ _ _)::_=>false
 |_::r=>IH r
def finish(np:Nat)(P:Program)(fn:Func)(outs:AE)(rs:List RS)(st:St):Option (B6 (leaves outs)):=
 match DP P st fn.results.toList with
 |some vs=>match Gk rs vs with
  |some tm=>match dec tm st.heap outs st.frz []with
   |some (y,bs,_)=>match pins np 0 bs&&(st.heap.take np).all BU with
    |true=>some y
    |false=>none
   |none=>none
  |none=>none
 |none=>none
def AL[Lk](np:Nat)(P:Program)(E:Env)(h:Hints)(fn:Func)(its outs:AE)(rs:List RS)(x:B6 (leaves its)):Option (B6 (leaves outs)):=
 match fn.body with
 |none=>none
 |some c=>BF P E h _ c 0 (encode fn.ntmps its x) fun e st=>
  match e with
  |.normal=>finish np P fn outs rs st
  |.ret=>finish np P fn outs rs st
  |_=>none
def given:List Bnd→List Nat
 |[]=>[]
 |.whole id::bs=>id::given bs
 |_::bs=>given bs
def Ce:Nat→List Bnd→Nat→List Nat
 |0,_,_=>[]
 |n+1,.whole id::bs,slot=>id::Ce n bs slot
 |n+1,_::bs,slot=>slot::Ce n bs (slot+1)
 |n+1,[],slot=>slot::Ce n [] (slot+1)
mutual
def ED(ids:List Nat):AV→AV
 |.agg cs=>.agg (LO ids cs)
 |.own id=>.own (ids.getD id 0)
 |.win id off n=>.win (ids.getD id 0) off n
 |.ptr id off=>.ptr (ids.getD id 0) off
 |.eptr id i s=>.eptr (ids.getD id 0) i s
 |.dptr cs=>.dptr (LO ids cs)
 |.clo f cs=>.clo f (LO ids cs)
 |.bnd f cs=>.bnd f (LO ids cs)
 |.mp id=>.mp (ids.getD id 0)
 |.tup vs=>.tup (LO ids vs)
 |.rowp _ _ _=>.junk
 |.aptr id n=>.aptr (ids.getD id 0) n
 |v=>v
def LO(ids:List Nat):List AV→List AV
 |[]=>[]
 |v::vs=>ED ids v::LO ids vs
end
def Dd(ids:List Nat):Ob→Ob
 |.box cs=>.box (LO ids cs)
 |.prs T tgt is=>.prs T (ids.getD tgt 0) is
 |o=>o
mutual
def J7:AV→Bool
 |.data t _=>t.flat
 |.agg cs=>Kp cs
 |.dptr _=>false
 |.clip _ _=>false
 |.clo _ cs=>Kp cs
 |.bnd _ cs=>Kp cs
 |.tup vs=>Kp vs
 |_=>true
def Kp:List AV→Bool
 |[]=>true
 |v::vs=>J7 v&&Kp vs
end
def RH:Ob→Bool
 |.box cs=>Kp cs
 |.arr _ t _=>t.flat
 |.map k v _=>k.flat&&v.flat
 |_=>true
def Fj(H:List Ob)(fz:List Bool):List Nat→List Bnd→Bool
 |[],_=>true
 |i::ids,bs=>(match bs with
  |.whole id::_=>decide (i=id)
  |_=>At H fz i)&&Fj H fz ids bs.tail
def Jr:List Nat→Bool
 |[]=>true
 |i::ids => !(ids.contains i)&&Jr ids
def single:List AV→AV
 |[v]=>v
 |vs=>.tup vs
def Bnd.AgO:Bnd→Bool
 |.cut _=>false
 |_=>true
def KG(R:Type)(gv:List Nat)(bs:List Bnd)(fr:List Nat)(rs:List RS)(E:St)(ids:List Nat)(H:List Ob)(fz:List Bool)(k:AV→Eff→Option R):Option R:=
 match Kp E.tmps&&E.heap.all RH with
 |true=>match Fj H fz ids bs&&Jr ids with
  |true=>k (single (Gf rs (LO ids E.tmps))) { objs:=gv.map (fun i=>(i,.dead))++ids.zip (E.heap.map (Dd ids)) }
  |false=>none
 |false=>match Fj H (Ak fr fz) ids bs&&Jr ids with
  |true=>k (single (Gf rs (LO ids E.tmps))) { objs:=gv.map (fun i=>(i,.dead))++ids.zip (E.heap.map (Dd ids)),frz:=fr }
  |false=>none
def AF(np na:Nat)(its outs:AE)(rs:List RS)(f:B6 (leaves its)→Option (B6 (leaves outs))):Spec:=fun R args H fz slot k=>
 match dec args H its fz []with
 |none=>none
 |some (x,bs,fr)=>match bs.all Bnd.AgO&&decide (bs.length=C7 its)&&decide (args.length=na)&&(IH its&&IH outs)with
  |false=>none
  |true=>match f x with
   |none=>none
   |some y=>KG R (given (bs.drop np)) (bs.take np) fr rs (encode (cellsOf rs) outs y) (Ce (C7 outs) (bs.take np) slot) H fz k
def Hk(np:Nat)(P:Program)(fn:Func)(rs:List RS)(st:St):(os:An)→Option (Pk os)
 |[]=>none
 |o::r=>match finish np P fn o.2 rs st with
  |some d=>some (.inl d)
  |none=>match Hk np P fn rs st r with
   |some x=>some (.inr x)
   |none=>none
def AXJ[Lk](np:Nat)(P:Program)(E:Env)(h:Hints)(fn:Func)(its:AE)(os:An)(rs:List RS)(x:B6 (leaves its)):Option (Pk os):=
 match fn.body with
 |none=>none
 |some c=>BF P E h _ c 0 (encode fn.ntmps its x) fun e st=>
  match e with
  |.normal=>Hk np P fn rs st os
  |.ret=>Hk np P fn rs st os
  |_=>none
def Gn(R:Type)(np:Nat)(bs:List Bnd)(fr:List Nat)(rs:List RS)(slot:Nat)(H:List Ob)(fz:List Bool)(k:AV→Eff→Option R):(os:An)→Pk os→Option R
 |[],_=>none
 |o::r,x=>match x with
  |.inl y=>match IH o.2 with
   |true=>KG R (given (bs.drop np)) (bs.take np) fr rs (encode (cellsOf rs) o.2 y) (Ce (C7 o.2) (bs.take np) slot) H fz k
   |false=>none
  |.inr x=>Gn R np bs fr rs slot H fz k r x
def ASn(np na:Nat)(its:AE)(os:An)(rs:List RS)(f:B6 (leaves its)→Option (Pk os)):Spec:=fun R args H fz slot k=>
 match dec args H its fz []with
 |none=>none
 |some (x,bs,fr)=>match bs.all Bnd.AgO&&decide (bs.length=C7 its)&&decide (args.length=na)&&IH its with
  |false=>none
  |true=>match f x with
   |none=>none
   |some y=>Gn R np bs fr rs slot H fz k os y
def DL[Lk](P:Program)(E:Env)(h:Hints)(fn:Func):Spec:=fun R args H fz _ k=>
 match fn.body with
 |none=>none
 |some c=>match decide (args.length≤fn.ntmps)with
  |false=>none
  |true=>BF P E h R c 0 { tmps:=args++List.replicate (fn.ntmps-args.length) .junk,heap:=H,frz:=fz } fun e st=>
   match e with
   |.normal=>match DP P st fn.results.toList with
    |some vs=>k (single vs) { heap:=some (st.heap,st.frz) }
    |none=>none
   |.ret=>match DP P st fn.results.toList with
    |some vs=>k (single vs) { heap:=some (st.heap,st.frz) }
    |none=>none
   |_=>none
end
end Go.Pev
end
section
namespace Go.Pev
open Go.RowKit
def rows{α:Type}(R:α→List Value→Prop):List α→List Value→Prop
 |[],cs=>cs=[]
 |x::xs,cs=>∃ c1 c2,cs=c1++c2∧R x c1∧rows R xs c2
def AFt{α β:Type}(K:α→Value→Prop)(V:β→Value→Prop):List (α×β)→List MapEntry→Prop
 |[],ms=>ms=[]
 |e::es,ms=>∃ me ms',ms=me::ms'∧K e.1 me.key∧V e.2 me.val∧AFt K V es ms'
def Dat(w:World)(F:Nat→Prop):(t:Ty)→t.den→List Value→Prop
 |.unit,_,cs=>cs=[]
 |.bool,b,cs=>cs=[.bool b]
 |.int k,n,cs=>cs=[.int k n]
 |.slice e,xs,cs=>∃ a cap,cs=[.slice a (List.length (α:=e.den) xs) cap]∧List.length (α:=e.den) xs≤cap∧(xs≠[]→∃ ad row,a=some ad∧F ad.block∧rows (Dat w F e) xs row ∧
   ∀ j u,row[j]? = some u→w.cell? (ad.add j)=some u)
 |.prod a b,d,cs=>∃ c1 c2,cs=c1++c2∧Dat w F a d.1 c1∧Dat w F b d.2 c2
 |.arr n e,xs,cs=>List.length (α:=e.den) xs=n∧rows (Dat w F e) xs cs
 |.nul _,_,cs=>cs=[.slice none 0 0]
 |.mapi j e,es,cs=>∃ b ms clock,cs=[.map (some b)]∧F b∧w.heap[b]? = some (.map ms clock)∧AFt (fun d v=>v = .int j d) (fun d v=>Dat w F e d [v]) es ms.toList
def Bg(w:World)(F:Nat→Prop)(t:Ty)(d:t.den)(v:Value):Prop:=
 if t.isAgg then ∃ vs,v = .agg vs∧Dat w F t d vs.toList else Dat w F t d [v]
inductive Ix where
 |o (i:Nat)
 |r (i k:Nat)
 deriving DecidableEq
instance:Coe Nat Ix:=⟨.o⟩
def Ix.id:Ix→Nat
 |.o i=>i
 |.r i _=>i
abbrev Mp:=Ix→Option (Nat×Nat)
def A8(o:Option Ob)(l:Option (Nat×Nat))(v:Value):Prop:=
 match o with
 |some (.arr _ t xs)=>match l with
  |none=>∃ a,v = .slice a 0 0
  |some (b,cap)=>v = .slice (some ⟨b,0,none⟩) (List.length (α:=t.den) xs) cap
 |some (.prs _ _ is)=>match l with
  |none=>∃ a,v = .slice a 0 0
  |some (b,cap)=>v = .slice (some ⟨b,0,none⟩) is.length cap
 |some (.rows (.arr _) _ t xs _ _)=>match l with
  |none=>∃ a,v = .slice a 0 0
  |some (b,cap)=>v = .slice (some ⟨b,0,none⟩) (List.length (α:=List t.den) xs) cap
 |some .dead=>v.oneCell'=true
 |_=>False
def AGx(o:Option Ob)(l:Option (Nat×Nat))(i ver:Nat)(v:Value):Prop:=
 match o with
 |some (.rows K _ t xs ver' _)=>v.oneCell'=true∧ver≤ver'∧(ver=ver'→(∃ ys:List t.den,xs[i]? = some ys∧A8 (some (.arr 0 t ys)) l v)∨(K.JE=false∧i=List.length (α:=List t.den) xs∧v = .slice none 0 0))
 |some .dead=>v.oneCell'=true
 |_=>False
def HE(o:Option Ob)(l:Option (Nat×Nat))(off n:Nat)(v:Value):Prop:=
 match o with
 |some (.arr _ t xs)=>off+n≤List.length (α:=t.den) xs∧match l with
  |none=>∃ a,v = .slice a n 0
  |some (b,cap)=>∃ a,v = .slice a n (cap-off)∧(off<cap→a=some ⟨b,off*t.size,none⟩)
 |some .dead=>v.oneCell'=true
 |_=>False
def HF(o:Option Ob)(l:Option (Nat×Nat))(off:Nat)(v:Value):Prop:=
 match o with
 |some (.box _)=>∃ b c,l=some (b,c)∧v = .pointer (some ⟨b,off,none⟩)
 |some .dead=>v.oneCell'=true
 |_=>False
def Ch(o:Option Ob)(l:Option (Nat×Nat))(i sub:Nat)(v:Value):Prop:=
 match o with
 |some (.arr _ t xs)=>i<List.length (α:=t.den) xs∧∃ b c,l=some (b,c)∧v = .pointer (some ⟨b,i*t.size+sub,none⟩)
 |some (.prs _ _ is)=>i<is.length∧∃ b c,l=some (b,c)∧v = .pointer (some ⟨b,i+sub,none⟩)
 |some (.rows (.arr _) _ t xs _ _)=>i<List.length (α:=List t.den) xs∧∃ b c,l=some (b,c)∧v = .pointer (some ⟨b,i+sub,none⟩)
 |some .dead=>v.oneCell'=true
 |_=>False
def Mu(o:Option Ob)(l:Option (Nat×Nat))(v:Value):Prop:=
 match o with
 |some (.map _ _ _)=>∃ b c,l=some (b,c)∧v = .map (some b)
 |some (.rows (.map _ _) _ _ _ _ _)=>∃ b c,l=some (b,c)∧v = .map (some b)
 |some .dead=>v.oneCell'=true
 |_=>False
def Fg(o:Option Ob)(l:Option (Nat×Nat))(n:Nat)(v:Value):Prop:=
 match o with
 |some (.arr _ t xs)=>List.length (α:=t.den) xs=n∧∃ b,l=some (b,n)∧v = .pointer (some ⟨b,0,none⟩)
 |some .dead=>v.oneCell'=true
 |_=>False
theorem A8.one{o:Ob}{l:Option (Nat×Nat)}{v:Value}(h:A8 (some o) l v):v.oneCell'=true:=by
 unfold A8 at h
 split at h
 all_goals try exact h.elim
 all_goals try exact h
 all_goals
  cases l with
  |none=>obtain⟨a,rfl⟩:=h;rfl
  |some p=>obtain⟨b,c⟩:=p;simp only at h;subst h;rfl
theorem HE.one{o:Ob}{l:Option (Nat×Nat)}{off n:Nat}{v:Value}(h:HE (some o) l off n v):v.oneCell'=true:=by
 unfold HE at h
 cases o<;>simp only at h<;>first|exact h.elim|exact h|skip
 obtain⟨_,h⟩:=h
 cases l with
 |none=>obtain⟨a,rfl⟩:=h;rfl
 |some p=>obtain⟨b,c⟩:=p;obtain⟨a,rfl,_⟩:=h;rfl
theorem HF.one{o:Ob}{l:Option (Nat×Nat)}{off:Nat}{v:Value}(h:HF (some o) l off v):v.oneCell'=true:=by
 unfold HF at h
 cases o<;>simp only at h<;>first|exact h.elim|exact h|skip
 obtain⟨b,c,_,rfl⟩:=h;rfl
theorem Ch.one{o:Ob}{l:Option (Nat×Nat)}{i sub:Nat}{v:Value}(h:Ch (some o) l i sub v):v.oneCell'=true:=by
 unfold Ch at h
 split at h
 all_goals try exact h.elim
 all_goals try exact h
 all_goals obtain⟨_,b,c,_,rfl⟩:=h;rfl
theorem AGx.one{o:Ob}{l:Option (Nat×Nat)}{i ver:Nat}{v:Value}(h:AGx (some o) l i ver v):v.oneCell'=true:=by
 unfold AGx at h
 cases o<;>simp only at h<;>first|exact h.elim|exact h|exact h.1
theorem Mu.one{o:Ob}{l:Option (Nat×Nat)}{v:Value}(h:Mu (some o) l v):v.oneCell'=true:=by
 unfold Mu at h
 split at h
 all_goals try exact h.elim
 all_goals try exact h
 all_goals obtain⟨b,c,_,rfl⟩:=h;rfl
theorem Fg.one{o:Ob}{l:Option (Nat×Nat)}{n:Nat}{v:Value}(h:Fg (some o) l n v):v.oneCell'=true:=by
 unfold Fg at h
 split at h
 all_goals try exact h.elim
 all_goals try exact h
 all_goals obtain⟨_,b,_,rfl⟩:=h;rfl
section
variable (w:World) (F:Nat→Prop) (m:Mp) (H:List Ob)
mutual
def Rep:AV→Value→Prop
 |.junk,_=>True
 |.data t d,v=>Bg w F t d v
 |.nils _,v=>v = .slice none 0 0
 |.agg cs,v=>∃ vs,v = .agg vs∧Ae cs vs.toList∧∀ u∈vs.toList,u.oneCell'=true
 |.own id,v=>A8 H[id]? (m id) v
 |.win id off n,v=>HE H[id]? (m id) off n v
 |.ptr id off,v=>HF H[id]? (m id) off v
 |.eptr id i sub,v=>Ch H[id]? (m id) i sub v
 |.dptr cs,v=>∃ ad us,v = .pointer (some ad)∧(cs≠[]→F ad.block)∧Ae cs us∧(∀ u∈us,u.oneCell'=true)∧∀ j u,us[j]? = some u→w.cell? (ad.add j)=some u
 |.clo f caps,v=>∃ cs,v = .func (.func f) #[] cs∧Ae caps cs.toList
 |.bnd f fs,v=>∃ cs,v = .func (.func f) cs #[]∧Ae fs cs.toList
 |.str xs,v=>∃ s,v = .string s∧bytesOf s=xs
 |.clip t xs,v=>Dat w F (.slice t) xs [v]∧∃ a,v = .slice a (List.length (α:=t.den) xs) (List.length (α:=t.den) xs)
 |.mp id,v=>Mu H[id]? (m id) v
 |.tup vs,v=>∃ us,v = .tuple us∧Ae vs us.toList
 |.rowp id i ver,v=>AGx H[id]? (m (.r id i)) i ver v
 |.glob g,v=>v = .pointer (some ⟨g,0,none⟩)
 |.nilp,v=>v = .pointer none
 |.aptr id n,v=>Fg H[id]? (m id) n v
def Ae:List AV→List Value→Prop
 |[],vs=>vs=[]
 |c::cs,vs=>∃ v vs',vs=v::vs'∧Rep c v∧Ae cs vs'
end
end
def Ant(w:World)(F:Nat→Prop)(k v:Ty)(e:k.den×v.den)(me:MapEntry):Prop:=Bg w F k e.1 me.key∧Bg w F v e.2 me.val
def I1(w:World)(F:Nat→Prop)(k v:Ty):List (k.den×v.den)→List MapEntry→Prop
 |[],ms=>ms=[]
 |e::es,ms=>∃ me ms',ms=me::ms'∧Ant w F k v e me∧I1 w F k v es ms'
def GP(ms:Array MapEntry)(clock:Nat):Prop:=clock=ms.size∧∀ (i:Nat) (e:MapEntry),ms[i]? = some e→e.born=i
def Hdr(w:World)(K:RK)(n:Nat)(out:Option Nat)(b cap:Nat):Prop:=
 match K with
 |.arr T=>∃ vs,w.heap[b]? = some (.cells vs T (0,0))∧n≤cap∧cap≤maxLen∧vs.size=cap∧∀ u∈vs.toList,u.oneCell'=true
 |.map j ks=>∃ ms clock,w.heap[b]? = some (.map ms clock)∧GP ms clock∧ms.toList.map (·.key)=ks.map (Value.int j)∧(n=ks.length∨(out=some ks.length∧n=ks.length+1))∧∀ k,out=some k→k<n
def Iz(w:World)(K:RK)(b k:Nat)(u:Value):Prop:=
 match K with
 |.arr T=>∃ vs,w.heap[b]? = some (.cells vs T (0,0))∧vs.toList[k]? = some u
 |.map _ _=>∃ ms clock e,w.heap[b]? = some (.map ms clock)∧ms.toList[k]? = some e∧e.val=u
def ObI(w:World)(F:Nat→Prop)(m:Mp)(H:List Ob)(o:Ob)(l:Option (Nat×Nat)):Prop:=
 match o with
 |.free=>True
 |.dead=>True
 |.box cs=>∃ b c vs T,l=some (b,c)∧w.heap[b]? = some (.cells vs T (0,0))∧Ae w F m H cs vs.toList∧∀ u∈vs.toList,u.oneCell'=true
 |.arr T t xs=>0<t.size∧match l with
  |none=>xs=[]
  |some (b,cap)=>∃ vs row,w.heap[b]? = some (.cells vs T (0,0))∧List.length (α:=t.den) xs≤cap∧cap≤maxLen∧vs.size=cap*t.size∧rows (Dat w F t) xs row∧vs.toList.take row.length=row
 |.map k v es=>∃ b c ms clock,l=some (b,c)∧w.heap[b]? = some (.map ms clock)∧I1 w F k v es ms.toList∧GP ms clock
 |.prs T tgt is=>match l with
  |none=>is=[]
  |some (b,cap)=>∃ vs us,w.heap[b]? = some (.cells vs T (0,0))∧is.length≤cap∧cap≤maxLen∧vs.size=cap∧Ae w F m H (Fv tgt is) us∧(∀ u∈us,u.oneCell'=true)∧vs.toList.take us.length=us
 |.rows K _ t xs _ out=>0<t.size∧match l with
  |none=>K.JE=true∧xs=[]
  |some (b,cap)=>Hdr w K (List.length (α:=List t.den) xs) out b cap
def Bn(H:List Ob)(fz:List Bool)(i:Nat):Prop:=
 match H[i]? with
 |some (.box _)=>True
 |some (.map _ _ _)=>True
 |some (.prs _ _ _)=>True
 |some (.arr _ _ _)=>fz.getD i false=false
 |some (.rows _ _ _ _ _ _)=>fz.getD i false=false
 |_=>False
def owned(H:List Ob)(fz:List Bool):Ix→Prop
 |.o i=>Bn H fz i
 |.r i k=>match H[i]? with
  |some (.rows _ _ t xs _ _)=>k<List.length (α:=List t.den) xs∧fz.getD i false=false
  |_=>False
def there(H:List Ob):Ix→Prop
 |.o i=>∃ o,H[i]? = some o∧o≠.free∧o≠.dead
 |.r i k=>match H[i]? with
  |some (.rows _ _ t xs _ _)=>k<List.length (α:=List t.den) xs
  |_=>False
def Bw(w:World)(F:Nat→Prop)(m:Mp)(H:List Ob)(i:Nat):Prop:=
 ∀ T e t xs ver out,H[i]? = some (.rows T e t xs ver out)→∀ (k:Nat) (ys:List t.den),xs[k]? = some ys →
  ObI w F m H (.arr e t ys) (m (.r i k))∧(out≠some k→∃ b cap u,m i=some (b,cap)∧Iz w T b k u∧A8 (some (.arr e t ys)) (m (.r i k)) u)
def AgL(w:World)(F:Nat→Prop):Prop:=∀ p∈AOO,F p.1∧∀ (j:Nat) (n:Int),p.2.2[j]? = some n→w.cell? ⟨p.1,j,none⟩=some (.int p.2.1 n)
structure HI(w:World)(F:Nat→Prop)(m:Mp)(H:List Ob)(fz:List Bool):Prop where
 obj:∀ (id:Nat) o,H[id]? = some o→ObI w F m H o (m id)
 row:∀ i,Bw w F m H i
 rfz:∀ (i:Nat) T e t xs ver out,H[i]? = some (.rows T e t xs ver out)→fz.getD i false=true→∀ x:Ix,x.id=i→there H x→∀ b c,m x=some (b,c)→F b
 sep:∀ i j b c b' c',owned H fz i→owned H fz j→i≠j→m i=some (b,c)→m j=some (b',c')→b≠b'
 off:∀ i b c,owned H fz i→m i=some (b,c)→¬ F b
 froz:∀ (i:Nat) T t xs b c,H[i]? = some (.arr T t xs)→fz.getD i false=true→m i=some (b,c)→F b
 lt:∀ b,F b→b<w.heap.size
 glo:AgL w F
 len:H.length=fz.length
def Rr:Ob→Nat
 |.rows _ _ _ _ ver _=>ver
 |_=>0
def sameShape:Ob→Ob→Prop
 |.box _,.box _=>True
 |.map _ _ _,.map _ _ _=>True
 |.prs _ _ is,.prs _ _ is'=>is.length=is'.length
 |.rows K e t xs ver out,.rows K' e' t' xs' ver' out'=>K.JE=K'.JE∧(K.JE=true→List.length (α:=List t.den) xs=List.length (α:=List t'.den) xs')∧(ver<ver'∨ver=ver'∧(⟨t,xs⟩:(t:Ty)×List (List t.den))=⟨t',xs'⟩)
 |.arr _ t xs,.arr _ t' xs'=>t.size=t'.size∧List.length (α:=t.den) xs=List.length (α:=t'.den) xs'
 |_,_=>False
def CF(H H':List Ob)(m m':Mp):Prop:=
 ∀ (i:Nat) (o:Ob),H[i]? = some o→o≠.free→H'[i]? = some .dead∨(o≠.dead∧∃ o',H'[i]? = some o'∧sameShape o o'∧m' i=m i∧(BU o=false→Rr o'=Rr o→∀ k,m' (.r i k)=m (.r i k)))
structure Ext(w:World)(F:Nat→Prop)(m:Mp)(H:List Ob)(fz:List Bool)(w':World)(F':Nat→Prop)(m':Mp)(H':List Ob)(fz':List Bool):Prop where
 os:w'.os=w.os
 tape:w'.tape=w.tape
 output:w'.output=w.output
 size:w.heap.size≤w'.heap.size
 keep:∀ b,b<w.heap.size→(∀ i c,owned H fz i→m i≠some (b,c))→w'.heap[b]? = w.heap[b]?
 sub:∀ b,F b→F' b
 bnd:∀ b,F' b→F b∨(∃ i c,owned H fz i∧m i=some (b,c))∨w.heap.size≤b
 own:∀ i b c,owned H' fz' i→m' i=some (b,c)→(∃ i c,owned H fz i∧m i=some (b,c))∨w.heap.size≤b
 comp:CF H H' m m'
theorem BM{α:Type}{R R':α→List Value→Prop}{xs:List α}(h:∀ x∈xs,∀ cs,R x cs→R' x cs):∀ {cs},rows R xs cs→rows R' xs cs:=by
 induction xs with
 |nil=>exact fun h=>h
 |cons x xs ih=>
  rintro cs ⟨c1,c2,rfl,h1,h2⟩
  exact⟨c1,c2,rfl,h x (by simp) _ h1,ih (fun y hy=>h y (by simp[hy])) h2⟩
theorem AZP{α β:Type}{K:α→Value→Prop}{V V':β→Value→Prop}(h:∀ x v,V x v→V' x v):∀ {es:List (α×β)} {ms},AFt K V es ms→AFt K V' es ms:=by
 intro es
 induction es with
 |nil=>exact fun h=>h
 |cons e es ih=>
  rintro ms ⟨me,ms',e1,h1,h2,h3⟩
  exact⟨me,ms',e1,h1,h _ _ h2,ih h3⟩
theorem Dat.mono{w w':World}{F F':Nat→Prop}(hc:∀ b,F b→w'.heap[b]? = w.heap[b]?)(hF:∀ b,F b→F' b):
  ∀ (t:Ty) {d:t.den} {cs:List Value},Dat w F t d cs→Dat w' F' t d cs:=by
 have hcell:∀ a:Addr,F a.block→w'.cell? a=w.cell? a:=fun a ha=>by simp only[World.cell?,hc _ ha]
 have hadd:∀ (a:Addr) (n:Nat),(a.add n).block=a.block:=fun a n=>by unfold Addr.add;split<;>rfl
 intro t
 induction t with
 |unit=>exact fun h=>h
 |bool=>exact fun h=>h
 |int k=>exact fun h=>h
 |slice e ih=>
  rintro d cs ⟨a,cap,h1,h2,h3⟩
  refine⟨a,cap,h1,h2,fun hne => ?_⟩
  obtain⟨ad,row,e1,e2,e3,e4⟩:=h3 hne
  exact⟨ad,row,e1,hF _ e2,BM (fun x _ cs hx=>ih hx) e3,fun j u hu=>(hcell _ (by rw[hadd];exact e2)).trans (e4 j u hu)⟩
 |prod a b iha ihb=>
  rintro d cs ⟨c1,c2,h1,h2,h3⟩
  exact⟨c1,c2,h1,iha h2,ihb h3⟩
 |arr n e ih=>
  rintro d cs ⟨h1,h2⟩
  exact⟨h1,BM (fun x _ cs hx=>ih hx) h2⟩
 |nul e=>exact fun h=>h
 |mapi j e ih=>
  rintro d cs ⟨b,ms,clock,h1,h2,h3,h4⟩
  exact⟨b,ms,clock,h1,hF _ h2,(hc _ h2).trans h3,AZP (fun x v hx=>ih hx) h4⟩
theorem Bg.mono{w w':World}{F F':Nat→Prop}(hc:∀ b,F b→w'.heap[b]? = w.heap[b]?)(hF:∀ b,F b→F' b)
  {t:Ty} {d:t.den} {v:Value} (h:Bg w F t d v):Bg w' F' t d v:=by
 unfold Bg at *
 split
 ·rename_i hg
  simp only[hg,ApL]at h
  obtain⟨vs,e,hd⟩:=h
  exact⟨vs,e,hd.mono hc hF t⟩
 ·rename_i hg
  simp only[hg]at h
  exact Dat.mono hc hF t h
theorem A5{α:Type}{R:α→List Value→Prop}{n:Nat}(h:∀ x cs,R x cs→cs.length=n):∀ {xs:List α} {cs},rows R xs cs→cs.length=xs.length*n:=by
 intro xs
 induction xs with
 |nil=>rintro cs rfl;simp
 |cons x xs ih=>
  rintro cs ⟨c1,c2,rfl,h1,h2⟩
  rw[Aos,h _ _ h1,ih h2,Aot,Api,AqN,Nat.add_comm]
theorem Dat.length{w:World}{F:Nat→Prop}:∀ (t:Ty) {d:t.den} {cs:List Value},Dat w F t d cs→cs.length=t.size:=by
 intro t
 induction t with
 |unit=>rintro d cs rfl;rfl
 |bool=>rintro d cs rfl;rfl
 |int k=>rintro d cs rfl;rfl
 |slice e ih=>rintro d cs ⟨a,cap,rfl,_,_⟩;rfl
 |prod a b iha ihb=>
  rintro d cs ⟨c1,c2,rfl,h2,h3⟩
  rw[Aos,iha h2,ihb h3];rfl
 |arr n e ih=>
  rintro d cs ⟨h1,h2⟩
  rw[A5 (fun x cs hx=>ih hx) h2,h1];rfl
 |nul e=>rintro d cs rfl;rfl
 |mapi j e ih=>rintro d cs ⟨b,ms,clock,rfl,_⟩;rfl
theorem SK{α:Type}{R:α→List Value→Prop}{p:Value→Prop}(h:∀ x cs,R x cs→∀ u∈cs,p u):∀ {xs:List α} {cs},rows R xs cs→∀ u∈cs,p u:=by
 intro xs
 induction xs with
 |nil=>rintro cs rfl u hu;cases hu
 |cons x xs ih=>
  rintro cs ⟨c1,c2,rfl,h1,h2⟩ u hu
  rcases Aom.1 hu with hu|hu
  ·exact h _ _ h1 u hu
  ·exact ih h2 u hu
theorem Dat.HU{w:World}{F:Nat→Prop}:∀ (t:Ty) {d:t.den} {cs:List Value},Dat w F t d cs→∀ u∈cs,u.oneCell'=true:=by
 intro t
 induction t with
 |unit=>rintro d cs rfl u hu;cases hu
 |bool=>rintro d cs rfl u hu;simp at hu;subst hu;rfl
 |int k=>rintro d cs rfl u hu;simp at hu;subst hu;rfl
 |slice e ih=>rintro d cs ⟨a,cap,rfl,_,_⟩ u hu;simp at hu;subst hu;rfl
 |prod a b iha ihb=>
  rintro d cs ⟨c1,c2,rfl,h2,h3⟩ u hu
  rcases Aom.1 hu with hu|hu
  ·exact iha h2 u hu
  ·exact ihb h3 u hu
 |arr n e ih=>
  rintro d cs ⟨h1,h2⟩
  exact SK (fun x cs hx=>ih hx) h2
 |nul e=>rintro d cs rfl u hu;simp at hu;subst hu;rfl
 |mapi j e ih=>rintro d cs ⟨b,ms,clock,rfl,_⟩ u hu;simp at hu;subst hu;rfl
theorem As{w:World}{F:Nat→Prop}{m:Mp}{H:List Ob}:∀ {cs:List AV} {vs:List Value},Ae w F m H cs vs→vs.length=cs.length:=by
 intro cs
 induction cs with
 |nil=>intro vs h;unfold Ae at h;subst h;rfl
 |cons c cs ih=>
  intro vs h;unfold Ae at h
  obtain⟨v,vs',rfl,_,h⟩:=h
  simp[ih h]
theorem CN{w:World}{F:Nat→Prop}{m:Mp}{H:List Ob}:∀ {cs:List AV} {vs:List Value},Ae w F m H cs vs→∀ {i:Nat} {c:AV},cs[i]? = some c→∃ v,vs[i]? = some v∧Rep w F m H c v:=by
 intro cs
 induction cs with
 |nil=>intro vs _ i c hc;simp at hc
 |cons c cs ih=>
  intro vs h i c' hc;unfold Ae at h
  obtain⟨v,vs',rfl,hv,h⟩:=h
  cases i with
  |zero=>simp at hc;subst hc;exact⟨v,rfl,hv⟩
  |succ i=>simpa using ih h (by simpa using hc)
theorem DV{w:World}{F:Nat→Prop}{m:Mp}{H:List Ob}:∀ {cs:List AV} {vs:List Value},vs.length=cs.length→(∀ (i:Nat) (c:AV) (v:Value),cs[i]? = some c→vs[i]? = some v→Rep w F m H c v)→Ae w F m H cs vs:=by
 intro cs
 induction cs with
 |nil=>intro vs h _;unfold Ae;exact Ao6 h
 |cons c cs ih=>
  intro vs hl h;unfold Ae
  match vs,hl with
  |v::vs',hl=>exact⟨v,vs',rfl,h 0 c v rfl rfl,ih (by simpa using hl) fun i c v hc hv=>h (i+1) c v (by simpa using hc) (by simpa using hv)⟩
theorem G3{w:World}{F:Nat→Prop}{m:Mp}{H:List Ob}{cs cs':List AV}{vs vs':List Value}(h:Ae w F m H cs vs)(h':Ae w F m H cs' vs'):Ae w F m H (cs++cs') (vs++vs'):=by
 induction cs generalizing vs with
 |nil=>unfold Ae at h;subst h;simpa using h'
 |cons c cs ih=>
  unfold Ae at h
  obtain⟨v,vs1,rfl,hv,h⟩:=h
  simp only[ApE]
  unfold Ae
  exact⟨v,_,rfl,hv,ih h⟩
theorem PO{w:World}{F:Nat→Prop}{m:Mp}{H:List Ob}{cs:List AV}{vs:List Value}(h:Ae w F m H cs vs)(n:Nat):Ae w F m H (cs.take n) (vs.take n):=by
 refine DV (by simp[As h]) fun i c v hc hv => ?_
 rw[ApU]at hc hv
 split at hc
 ·rename_i hi
  simp only[hi,ApL]at hv
  obtain⟨v',hv',hr⟩:=CN h hc
  rw[hv]at hv';cases hv';exact hr
 ·cases hc
theorem E9{w:World}{F:Nat→Prop}{m:Mp}{H:List Ob}{cs:List AV}{vs:List Value}(h:Ae w F m H cs vs)(n:Nat):Ae w F m H (cs.drop n) (vs.drop n):=by
 refine DV (by simp[As h]) fun i c v hc hv => ?_
 rw[Apk]at hc hv
 obtain⟨v',hv',hr⟩:=CN h hc
 rw[hv]at hv';cases hv';exact hr
section
variable {w w':World} {F F':Nat→Prop} {m m':Mp} {H H':List Ob}
theorem GN(hcomp:CF H H' m m')(P:Option Ob→Option (Nat×Nat)→Prop)(hdead:∀ o l l',P (some o) l→P (some .dead) l')(hnone:∀ l,¬ P none l)(hfree:∀ l,¬ P (some .free) l)
  (hsame:∀ o o' l,sameShape o o'→P (some o) l→P (some o') l) (i:Nat) (h:P H[i]? (m i)):P H'[i]? (m' i):=by
 cases ho:H[i]? with
 |none=>rw[ho]at h;exact absurd h (hnone _)
 |some o=>
  rw[ho]at h
  by_cases hf:o = .free
  ·subst hf;exact absurd h (hfree _)
  ·rcases hcomp i o ho hf with h1|⟨_,o',h1,h2,h3,_⟩
   ·rw[h1];exact hdead _ _ _ h
   ·rw[h1,h3];exact hsame o o' _ h2 h
mutual
theorem Rep.mono(hc:∀ b,F b→w'.heap[b]? = w.heap[b]?)(hF:∀ b,F b→F' b)(hcomp:CF H H' m m'):∀ (a:AV) {v:Value},Rep w F m H a v→Rep w' F' m' H' a v
 |.junk,_,_=>by unfold Rep;trivial
 |.data t d,v,h=>by unfold Rep at *;exact h.mono hc hF
 |.nils _,v,h=>by unfold Rep at *;exact h
 |.agg cs,v,h=>by
  unfold Rep at *
  obtain⟨vs,e,h,h1⟩:=h
  exact⟨vs,e,Ae.mono hc hF hcomp cs h,h1⟩
 |.own id,v,h=>by
  unfold Rep at *
  refine GN hcomp (fun o l=>A8 o l v) (fun o l l'=>A8.one) (fun l h=>h) (fun l h=>h) ?_ id h
  intro o o' l hs h
  cases o<;>cases o'<;>simp only[sameShape]at hs<;>try exact hs.elim
  ·exact h.elim
  ·obtain⟨hz,hl⟩:=hs
   unfold A8 at *
   simp only at *
   rw[← hl];exact h
  ·exact h.elim
  ·unfold A8 at *
   simp only at *
   rw[← hs];exact h
  ·rename_i K _ _ _ _ _ K' _ _ _ _ _
   cases K<;>cases K'<;>first|(cases hs.1;done)|exact h.elim|skip
   unfold A8 at *
   simp only at *
   rw[← hs.2.1 rfl];exact h
 |.win id off n,v,h=>by
  unfold Rep at *
  refine GN hcomp (fun o l=>HE o l off n v) (fun o l l'=>HE.one) (fun l h=>h) (fun l h=>h) ?_ id h
  intro o o' l hs h
  cases o<;>cases o'<;>simp only[sameShape]at hs<;>try exact hs.elim
  ·exact h.elim
  ·obtain⟨hz,hl⟩:=hs
   unfold HE at *
   simp only at *
   rw[← hl,← hz];exact h
  ·exact h.elim
  ·exact h.elim
  ·exact h.elim
 |.ptr id off,v,h=>by
  unfold Rep at *
  refine GN hcomp (fun o l=>HF o l off v) (fun o l l'=>HF.one) (fun l h=>h) (fun l h=>h) ?_ id h
  intro o o' l hs h
  cases o<;>cases o'<;>simp only[sameShape]at hs<;>try exact hs.elim
  ·exact h
  ·exact h.elim
  ·exact h.elim
  ·exact h.elim
  ·exact h.elim
 |.eptr id i sub,v,h=>by
  unfold Rep at *
  refine GN hcomp (fun o l=>Ch o l i sub v) (fun o l l'=>Ch.one) (fun l h=>h) (fun l h=>h) ?_ id h
  intro o o' l hs h
  cases o<;>cases o'<;>simp only[sameShape]at hs<;>try exact hs.elim
  ·exact h.elim
  ·obtain⟨hz,hl⟩:=hs
   unfold Ch at *
   simp only at *
   rw[← hl,← hz];exact h
  ·exact h.elim
  ·unfold Ch at *
   simp only at *
   rw[← hs];exact h
  ·rename_i K _ _ _ _ _ K' _ _ _ _ _
   cases K<;>cases K'<;>first|(cases hs.1;done)|exact h.elim|skip
   unfold Ch at *
   simp only at *
   rw[← hs.2.1 rfl];exact h
 |.dptr cs,v,h=>by
  unfold Rep at *
  obtain⟨ad,us,e,h1,h2,h4,h3⟩:=h
  refine⟨ad,us,e,fun hne=>hF _ (h1 hne),Ae.mono hc hF hcomp cs h2,h4,fun j u hu => ?_⟩
  have hadd:(ad.add j).block=ad.block:=by unfold Addr.add;split<;>rfl
  have hne:cs≠[]:=by
   rintro rfl
   unfold Ae at h2;subst h2;simp at hu
  have h3:=h3 j u hu
  simp only[World.cell?]at h3 ⊢
  rw[hc _ (by rw[hadd];exact h1 hne)]
  exact h3
 |.clo f caps,v,h=>by
  unfold Rep at *
  obtain⟨cs,e,h⟩:=h
  exact⟨cs,e,Ae.mono hc hF hcomp caps h⟩
 |.bnd f caps,v,h=>by
  unfold Rep at *
  obtain⟨cs,e,h⟩:=h
  exact⟨cs,e,Ae.mono hc hF hcomp caps h⟩
 |.str _,v,h=>by unfold Rep at *;exact h
 |.clip t xs,v,h=>by unfold Rep at *;exact⟨Dat.mono hc hF (.slice t) h.1,h.2⟩
 |.mp id,v,h=>by
  unfold Rep at *
  refine GN hcomp (fun o l=>Mu o l v) (fun o l l'=>Mu.one) (fun l h=>h) (fun l h=>h) ?_ id h
  intro o o' l hs h
  cases o<;>cases o'<;>simp only[sameShape]at hs<;>try exact hs.elim
  ·exact h.elim
  ·exact h.elim
  ·exact h
  ·exact h.elim
  ·rename_i K _ _ _ _ _ K' _ _ _ _ _
   cases K<;>cases K'<;>first|(cases hs.1;done)|exact h.elim|exact h
 |.glob g,v,h=>by unfold Rep at *;exact h
 |.nilp,v,h=>by unfold Rep at *;exact h
 |.aptr id n,v,h=>by
  unfold Rep at *
  refine GN hcomp (fun o l=>Fg o l n v) (fun o l l'=>Fg.one) (fun l h=>h) (fun l h=>h) ?_ id h
  intro o o' l hs h
  cases o<;>cases o'<;>simp only[sameShape]at hs<;>try exact hs.elim
  ·exact h.elim
  ·obtain⟨hz,hl⟩:=hs
   unfold Fg at *
   simp only at *
   rw[← hl];exact h
  ·exact h.elim
  ·exact h.elim
  ·exact h.elim
 |.tup vs,v,h=>by
  unfold Rep at *
  obtain⟨us,e,h⟩:=h
  exact⟨us,e,Ae.mono hc hF hcomp vs h⟩
 |.rowp id i ver,v,h=>by
  unfold Rep at *
  cases ho:H[id]? with
  |none=>rw[ho]at h;exact h.elim
  |some o=>
   rw[ho]at h
   have hone:=AGx.one h
   by_cases hf:o = .free
   ·subst hf;exact h.elim
   ·rcases hcomp id o ho hf with h1|⟨_,o',h1,h2,h3,h4⟩
    ·rw[h1];exact hone
    ·rw[h1]
     cases o<;>(try exact h.elim)<;>cases o'<;>simp only[sameShape]at h2
     ·obtain⟨_,h6,h7⟩:=h
      obtain⟨ha,h8,h9⟩:=h2
      refine⟨hone,?_,fun e => ?_⟩
      ·rcases h9 with h9|⟨h9,_⟩<;>omega
      ·rcases h9 with h9|⟨h9,h10⟩
       ·omega
       ·subst h9
        cases h10
        rw[h4 rfl rfl i,← ha]
        exact h7 e
theorem Ae.mono(hc:∀ b,F b→w'.heap[b]? = w.heap[b]?)(hF:∀ b,F b→F' b)(hcomp:CF H H' m m'):∀ (cs:List AV) {vs:List Value},Ae w F m H cs vs→Ae w' F' m' H' cs vs
 |[],vs,h=>by unfold Ae at *;exact h
 |c::cs,vs,h=>by
  unfold Ae at *
  obtain⟨v,vs',e,h1,h2⟩:=h
  exact⟨v,vs',e,Rep.mono hc hF hcomp c h1,Ae.mono hc hF hcomp cs h2⟩
end
theorem CF.refl(H:List Ob)(m:Mp):CF H H m m:=by
 intro i o ho _
 by_cases hd:o = .dead
 ·subst hd;exact .inl ho
 ·refine .inr ⟨hd,o,ho,?_,rfl,fun _ _ _=>rfl⟩
  cases o<;>simp_all [sameShape]
theorem sameShape.trans{a b c:Ob}(h:sameShape a b)(h':sameShape b c):sameShape a c:=by
 cases a<;>cases b<;>simp only[sameShape]at h<;>(try exact h.elim)<;>cases c<;>simp only[sameShape]at h'<;>(try exact h'.elim)<;>simp only[sameShape]
 ·exact⟨h.1.trans h'.1,h.2.trans h'.2⟩
 ·exact h.trans h'
 ·refine⟨h.1.trans h'.1,fun hk=>(h.2.1 hk).trans (h'.2.1 (h.1▸hk)),?_⟩
  rcases h.2.2 with h1|⟨h1,h2⟩<;>rcases h'.2.2 with h3|⟨h3,h4⟩
  ·exact .inl (Nat.lt_trans h1 h3)
  ·exact .inl (h3▸h1)
  ·exact .inl (h1▸h3)
  ·exact .inr ⟨h1.trans h3,h2.trans h4⟩
theorem sameShape.ver{a b:Ob}(h:sameShape a b):Rr a≤Rr b∧BU a=BU b:=by
 cases a<;>cases b<;>simp only[sameShape]at h<;>(try exact h.elim)<;>(try exact⟨Aop _,rfl⟩)
 rcases h.2.2 with h1|⟨h1,_⟩
 ·exact⟨AqS h1,rfl⟩
 ·exact⟨Aqw h1,rfl⟩
theorem CF.trans{a b c:List Ob}{m m' m'':Mp}(h:CF a b m m')(h':CF b c m' m''):CF a c m m'':=by
 intro i o ho hf
 rcases h i o ho hf with h1|⟨hd,o',h1,h2,h3,hp⟩
 ·rcases h' i _ h1 (by simp)with h4|⟨h5,_⟩
  ·exact .inl h4
  ·exact absurd rfl h5
 ·have hf':o'≠.free:=by rintro rfl;cases o<;>simp[sameShape]at h2
  rcases h' i o' h1 hf' with h4|⟨_,o'',h4,h5,h6,hq⟩
  ·exact .inl h4
  ·refine .inr ⟨hd,o'',h4,h2.trans h5,h6.trans h3,fun a b k => ?_⟩
   have h8:=h2.ver
   have h9:=h5.ver
   exact(hq (h8.2▸a) (by omega) k).trans (hp a (by omega) k)
theorem Ext.refl(w:World)(F:Nat→Prop)(m:Mp)(H:List Ob)(fz:List Bool):Ext w F m H fz w F m H fz:=
 ⟨rfl,rfl,rfl,Aop _,fun _ _ _=>rfl,fun _ h=>h,fun _ h=>.inl h,fun i b c h1 h2=>.inl ⟨i,c,h1,h2⟩,CF.refl H m⟩
theorem Ext.trans{w w1 w2:World}{F F1 F2:Nat→Prop}{m m1 m2:Mp}{H H1 H2:List Ob}{fz fz1 fz2:List Bool}
  (h:Ext w F m H fz w1 F1 m1 H1 fz1) (k:Ext w1 F1 m1 H1 fz1 w2 F2 m2 H2 fz2):Ext w F m H fz w2 F2 m2 H2 fz2 where
 os:=k.os.trans h.os
 tape:=k.tape.trans h.tape
 output:=k.output.trans h.output
 size:=Ap0 h.size k.size
 keep b hb hn:=by
  rw[k.keep b (Ap6 hb h.size) ?_,h.keep b hb hn]
  intro i c ho he
  rcases h.own i b c ho he with⟨i',c',h1,h2⟩|h1
  ·exact hn i' c' h1 h2
  ·omega
 sub b hb:=k.sub b (h.sub b hb)
 bnd b hb:=by
  rcases k.bnd b hb with h1|⟨i,c,h1,h2⟩|h1
  ·exact h.bnd b h1
  ·rcases h.own i b c h1 h2 with h3|h3
   ·exact .inr (.inl h3)
   ·exact .inr (.inr h3)
  ·exact .inr (.inr (Ap0 h.size h1))
 own i b c h1 h2:=by
  rcases k.own i b c h1 h2 with⟨i',c',h3,h4⟩|h3
  ·exact h.own i' b c' h3 h4
  ·exact .inr (Ap0 h.size h3)
 comp:=h.comp.trans k.comp
theorem Ext.frozen{fz fz':List Bool}(hi:HI w F m H fz)(h:Ext w F m H fz w' F' m' H' fz'){b:Nat}(hb:F b):w'.heap[b]? = w.heap[b]? :=
 h.keep b (hi.lt b hb) fun i c ho he=>hi.off i b c ho he hb
theorem Ext.cell{fz fz':List Bool}(hi:HI w F m H fz)(h:Ext w F m H fz w' F' m' H' fz')(a:Addr)(ha:F a.block):w'.cell? a=w.cell? a:=by
 simp[World.cell?,h.frozen hi ha]
theorem Ext.rep{fz fz':List Bool}(hi:HI w F m H fz)(h:Ext w F m H fz w' F' m' H' fz'){a:AV}{v:Value}(hr:Rep w F m H a v):Rep w' F' m' H' a v:=
 Rep.mono (fun b hb=>h.frozen hi hb) h.sub h.comp a hr
theorem Ext.AoZ{fz fz':List Bool}(hi:HI w F m H fz)(h:Ext w F m H fz w' F' m' H' fz'){a:List AV}{v:List Value}(hr:Ae w F m H a v):Ae w' F' m' H' a v:=
 Ae.mono (fun b hb=>h.frozen hi hb) h.sub h.comp a hr
theorem Ext.dat{fz fz':List Bool}(hi:HI w F m H fz)(h:Ext w F m H fz w' F' m' H' fz'){t:Ty}{d:t.den}{v:List Value}(hr:Dat w F t d v):Dat w' F' t d v:=
 hr.mono (fun b hb=>h.frozen hi hb) h.sub t
theorem I1.mono{k v:Ty}(hc:∀ b,F b→w'.heap[b]? = w.heap[b]?)(hF:∀ b,F b→F' b):
  ∀ {es:List (k.den×v.den)} {ms:List MapEntry},I1 w F k v es ms→I1 w' F' k v es ms:=by
 intro es
 induction es with
 |nil=>exact fun h=>h
 |cons e es ih=>
  rintro ms ⟨me,ms',e1,⟨h1,h2⟩,h3⟩
  exact⟨me,ms',e1,⟨h1.mono hc hF,h2.mono hc hF⟩,ih h3⟩
end
end Go.Pev
end
section
namespace Go.Pev
open Go.RowKit
theorem Ay{w:World}{b:Nat}{o:Obj}(h:w.heap[b]? = some o):b<w.heap.size:=by
 rcases ApT b w.heap.size with h'|h'
 ·exact h'
 ·simp[Array.getElem?_eq_none h']at h
theorem Hdr.mono{w w':World}{K:RK}{n:Nat}{out:Option Nat}{b cap:Nat}(hb:b<w.heap.size→w'.heap[b]? = w.heap[b]?)(h:Hdr w K n out b cap):Hdr w' K n out b cap:=by
 cases K with
 |arr T=>obtain⟨vs,e1,e2⟩:=h;exact⟨vs,(hb (Ay e1)).trans e1,e2⟩
 |map j ks=>obtain⟨ms,clock,e1,e2⟩:=h;exact⟨ms,clock,(hb (Ay e1)).trans e1,e2⟩
theorem Iz.mono{w w':World}{K:RK}{b k:Nat}{u:Value}(hb:b<w.heap.size→w'.heap[b]? = w.heap[b]?)(h:Iz w K b k u):Iz w' K b k u:=by
 cases K with
 |arr T=>obtain⟨vs,e1,e2⟩:=h;exact⟨vs,(hb (Ay e1)).trans e1,e2⟩
 |map j ks=>obtain⟨ms,clock,e,e1,e2⟩:=h;exact⟨ms,clock,e,(hb (Ay e1)).trans e1,e2⟩
theorem Hdr.lt{w:World}{K:RK}{n:Nat}{out:Option Nat}{b cap:Nat}(h:Hdr w K n out b cap):b<w.heap.size:=by
 cases K with
 |arr T=>obtain⟨vs,e1,e2⟩:=h;exact Ay e1
 |map j ks=>obtain⟨ms,clock,e1,e2⟩:=h;exact Ay e1
theorem Iz.lt{w:World}{K:RK}{b k:Nat}{u:Value}(h:Iz w K b k u):b<w.heap.size:=by
 cases K with
 |arr T=>obtain⟨vs,e1,e2⟩:=h;exact Ay e1
 |map j ks=>obtain⟨ms,clock,e,e1,e2⟩:=h;exact Ay e1
theorem AgL.mono{w w':World}{F F':Nat→Prop}(hc:∀ b,F b→w'.heap[b]? = w.heap[b]?)(hF:∀ b,F b→F' b)(h:AgL w F):AgL w' F':=fun p hp=>by
 obtain⟨h1,h2⟩:=h p hp
 exact⟨hF _ h1,fun j n hn=>by have:=h2 j n hn;simp only[World.cell?]at this ⊢;rw[hc _ h1];exact this⟩
theorem ObI.mono{w w':World}{F F':Nat→Prop}{m m':Mp}{H H':List Ob}{o:Ob}{l:Option (Nat×Nat)}
  (hc:∀ b,F b→w'.heap[b]? = w.heap[b]?) (hF:∀ b,F b→F' b) (hcomp:CF H H' m m')
  (hb:o≠.free→o≠.dead→∀ b c,l=some (b,c)→b<w.heap.size→w'.heap[b]? = w.heap[b]?) (h:ObI w F m H o l):ObI w' F' m' H' o l:=by
 cases o with
 |free=>trivial
 |dead=>trivial
 |box cs=>
  obtain⟨b,c,vs,T,e1,e2,e3,e4⟩:=h
  exact⟨b,c,vs,T,e1,(hb (by simp) (by simp) b c e1 (Ay e2)).trans e2,Ae.mono hc hF hcomp cs e3,e4⟩
 |arr T t xs=>
  obtain⟨h0,h⟩:=h
  refine⟨h0,?_⟩
  cases l with
  |none=>exact h
  |some p=>
   obtain⟨b,cap⟩:=p
   obtain⟨vs,row,e1,e2,e3,e4,e5,e6⟩:=h
   exact⟨vs,row,(hb (by simp) (by simp) b cap rfl (Ay e1)).trans e1,e2,e3,e4,BM (fun x _ cs hx=>hx.mono hc hF t) e5,e6⟩
 |map k v es=>
  obtain⟨b,c,ms,clock,e1,e2,e3,e4⟩:=h
  exact⟨b,c,ms,clock,e1,(hb (by simp) (by simp) b c e1 (Ay e2)).trans e2,I1.mono hc hF e3,e4⟩
 |prs T tgt is=>
  cases l with
  |none=>exact h
  |some p=>
   obtain⟨b,cap⟩:=p
   obtain⟨vs,us,e1,e2,e3,e4,e5,e6,e7⟩:=h
   exact⟨vs,us,(hb (by simp) (by simp) b cap rfl (Ay e1)).trans e1,e2,e3,e4,Ae.mono hc hF hcomp _ e5,e6,e7⟩
 |rows T e t xs ver out=>
  obtain⟨h0,h⟩:=h
  refine⟨h0,?_⟩
  cases l with
  |none=>exact h
  |some p=>
   obtain⟨b,cap⟩:=p
   exact Hdr.mono (fun hlt=>hb (by simp) (by simp) b cap rfl hlt) h
theorem CV{H H':List Ob}{fz:List Bool}{i:Ix}(h:H'[i.id]? = H[i.id]?):owned H' fz i↔owned H fz i:=by
 cases i with
 |o i=>simp only[owned,Bn];rw[show H'[i]? = H[i]? from h]
 |r i k=>simp only[owned];rw[show H'[i]? = H[i]? from h]
theorem E2{H:List Ob}{fz:List Bool}{i k:Nat}{o:Ob}(h:H[i]? = some o)(p:BU o=true):¬ owned H fz (.r i k):=by
 simp only[owned]
 rw[h]
 cases o<;>first|exact id|cases p
theorem CS{H H':List Ob}{x:Ix}(h:H'[x.id]? = H[x.id]?):there H' x↔there H x:=by
 cases x with
 |o i=>simp only[there];rw[show H'[i]? = H[i]? from h]
 |r i k=>simp only[there];rw[show H'[i]? = H[i]? from h]
theorem AQN{H:List Ob}{i k:Nat}{o:Ob}(h:H[i]? = some o)(p:BU o=true):¬ there H (.r i k):=by
 simp only[there]
 rw[h]
 cases o<;>first|exact id|cases p
theorem Bw.plain{w:World}{F:Nat→Prop}{m:Mp}{H:List Ob}{i:Nat}{o:Ob}(h:H[i]? = some o)(p:BU o=true):Bw w F m H i:=by
 intro T e t xs ver out h1
 rw[h]at h1
 cases h1
 cases p
theorem Bw.mono{w w':World}{F F':Nat→Prop}{m m':Mp}{H H':List Ob}{i:Nat}
  (hc:∀ b,F b→w'.heap[b]? = w.heap[b]?) (hF:∀ b,F b→F' b) (hcomp:CF H H' m m') (hH:H'[i]? = H[i]?) (hm:∀ x:Ix,x.id=i→m' x=m x)
  (hb:∀ x:Ix,x.id=i→there H x→∀ b c,m x=some (b,c)→b<w.heap.size→w'.heap[b]? = w.heap[b]?) (h:Bw w F m H i):Bw w' F' m' H' i:=by
 intro T e t xs ver out h1 k ys hk
 rw[hH]at h1
 obtain⟨h2,h3⟩:=h T e t xs ver out h1 k ys hk
 have hlt:k<List.length (α:=List t.den) xs:=by
  rcases ApT k (List.length (α:=List t.den) xs)with h'|h'
  ·exact h'
  ·rw[ApD h']at hk;cases hk
 rw[hm (.r i k) rfl]
 refine⟨ObI.mono hc hF hcomp (fun _ _ b c hl hlt'=>hb (.r i k) rfl (by simp only[there];rw[h1];exact hlt) b c hl hlt') h2,fun ho => ?_⟩
 obtain⟨b,cap,u,e1,e2,e3⟩:=h3 ho
 exact⟨b,cap,u,(hm (.o i) rfl).trans e1,e2.mono (hb (.o i) rfl ⟨_,h1,by simp,by simp⟩ b cap e1),e3⟩
theorem HI.neI{w:World}{F:Nat→Prop}{m:Mp}{H:List Ob}{fz:List Bool}(hi:HI w F m H fz){i:Nat}{j:Ix}{b c b' c':Nat}(ho:owned H fz j)
  (hj:m j=some (b',c')) {o:Ob} (hio:H[i]? = some o) (hal:o≠.free) (hal':o≠.dead) (hi':m i=some (b,c)) (hne:.o i≠j):b≠b':=by
 by_cases hoi:owned H fz i
 ·exact hi.sep i j b c b' c' hoi ho hne hi' hj
 ·cases o with
  |free=>exact absurd rfl hal
  |dead=>exact absurd rfl hal'
  |box cs=>exact absurd (by simp[owned,Bn,hio]) hoi
  |map k v es=>exact absurd (by simp[owned,Bn,hio]) hoi
  |prs T tgt is=>exact absurd (by simp[owned,Bn,hio]) hoi
  |rows T e t xs ver out=>
   have hf:fz.getD i false=true:=by
    cases hx:fz.getD i false with
    |true=>rfl
    |false=>exact absurd (by simp only[owned,Bn,hio];exact hx) hoi
   have h1:=hi.rfz i T e t xs ver out hio hf i rfl ⟨_,hio,by simp,by simp⟩ b c hi'
   rintro rfl
   exact hi.off j b c' ho hj h1
  |arr T t xs=>
   have hf:fz.getD i false=true:=by
    cases hx:fz.getD i false with
    |true=>rfl
    |false=>exact absurd (by simp only[owned,Bn,hio];exact hx) hoi
   have h1:=hi.froz i T t xs b c hio hf hi'
   rintro rfl
   exact hi.off j b c' ho hj h1
theorem Alr{i j:Nat}(h:i≠j):Ix.o i≠Ix.o j:=fun e=>h (Ix.o.inj e)
theorem HI.ne{w:World}{F:Nat→Prop}{m:Mp}{H:List Ob}{fz:List Bool}(hi:HI w F m H fz){i j:Nat}{b c b' c':Nat}(ho:owned H fz j)
  (hj:m j=some (b',c')) {o:Ob} (hio:H[i]? = some o) (hal:o≠.free) (hal':o≠.dead) (hi':m i=some (b,c)) (hne:i≠j):b≠b':=hi.neI ho hj hio hal hal' hi' (Alr hne)
theorem C6{H:List Ob}{fz:List Bool}{i:Ix}(h:owned H fz i):∃ o,H[i.id]? = some o∧o≠.free∧o≠.dead:=by
 cases i with
 |o i=>
  simp only[owned,Bn]at h
  split at h
  ·rename_i h1;exact⟨_,h1,by simp,by simp⟩
  ·rename_i h1;exact⟨_,h1,by simp,by simp⟩
  ·rename_i h1;exact⟨_,h1,by simp,by simp⟩
  ·rename_i h1;exact⟨_,h1,by simp,by simp⟩
  ·rename_i h1;exact⟨_,h1,by simp,by simp⟩
  ·exact h.elim
 |r i k=>
  simp only[owned]at h
  split at h
  ·rename_i h1;exact⟨_,h1,by simp,by simp⟩
  ·exact h.elim
theorem owned.there{H:List Ob}{fz:List Bool}{x:Ix}(h:owned H fz x):there H x:=by
 cases x with
 |o i=>exact C6 h
 |r i k=>
  simp only[owned,Pev.there]at *
  split at h
  ·exact h.1
  ·exact h.elim
theorem HI.neX{w:World}{F:Nat→Prop}{m:Mp}{H:List Ob}{fz:List Bool}(hi:HI w F m H fz){x j:Ix}{b c b' c':Nat}(ho:owned H fz j)
  (hj:m j=some (b',c')) (ht:there H x) (hx:m x=some (b,c)) (hne:x≠j):b≠b':=by
 cases x with
 |o i=>obtain⟨o,h1,h2,h3⟩:=ht;exact hi.neI ho hj h1 h2 h3 hx hne
 |r i k=>
  by_cases hox:owned H fz (.r i k)
  ·exact hi.sep _ _ b c b' c' hox ho hne hx hj
  ·have ht':=ht
   simp only[there,owned]at ht hox
   split at ht
   ·rename_i T e t xs ver out h1
    have hf:fz.getD i false=true:=by
     cases hz:fz.getD i false with
     |true=>rfl
     |false=>exact absurd (by rw[h1];exact⟨ht,hz⟩) hox
    have h2:=hi.rfz i T e t xs ver out h1 hf (.r i k) rfl ht' b c hx
    rintro rfl
    exact hi.off j b c' ho hj h2
   ·exact ht.elim
theorem E4{H:List Ob}{fz:List Bool}{i:Nat}(h:owned H fz i):∃ o,H[i]? = some o∧o≠.free∧o≠.dead:=C6 h
theorem ObI.lt{w:World}{F:Nat→Prop}{m:Mp}{H:List Ob}{o:Ob}{b c:Nat}(h:ObI w F m H o (some (b,c)))(h1:o≠.free)(h2:o≠.dead):b<w.heap.size:=by
 cases o with
 |free=>exact absurd rfl h1
 |dead=>exact absurd rfl h2
 |box cs=>obtain⟨b,c,vs,T,e1,e2,_⟩:=h;cases e1;exact Ay e2
 |map k v es=>obtain⟨b,c,vs,T,e1,e2,_⟩:=h;cases e1;exact Ay e2
 |arr T t xs=>obtain⟨_,vs,row,e1,_⟩:=h;exact Ay e1
 |prs T tgt is=>obtain⟨vs,us,e1,_⟩:=h;exact Ay e1
 |rows T e t xs ver out=>obtain⟨_,h⟩:=h;exact Hdr.lt h
theorem HI.AS5{w:World}{F:Nat→Prop}{m:Mp}{H:List Ob}{fz:List Bool}(hi:HI w F m H fz){i:Ix}{b c:Nat}(h:there H i)(hm:m i=some (b,c)):b<w.heap.size:=by
 cases i with
 |o i=>
  obtain⟨o,ho,h1,h2⟩:=h
  have:=hi.obj i o ho
  rw[hm]at this
  exact this.lt h1 h2
 |r i k=>
  simp only[there]at h
  split at h
  ·rename_i T e t xs ver out h3
   obtain⟨ys,hys⟩:∃ ys:List t.den,xs[k]? = some ys:=⟨_,Aon h⟩
   have:=((hi.row i) T e t xs ver out h3 k ys hys).1
   rw[hm]at this
   exact this.lt (by simp) (by simp)
  ·exact h.elim
theorem HI.IJ{w:World}{F:Nat→Prop}{m:Mp}{H:List Ob}{fz:List Bool}(hi:HI w F m H fz){i:Ix}{b c:Nat}(h:owned H fz i)(hm:m i=some (b,c)):b<w.heap.size:=hi.AS5 h.there hm
def Ap(w:World)(F:Nat→Prop)(m:Mp)(H:List Ob)(fz:List Bool)(w':World)(F':Nat→Prop)(m':Mp)(H':List Ob)(fz':List Bool):Prop:=
 Ext w F m H fz w' F' m' H' fz'∧HI w' F' m' H' fz'
theorem Ap.trans{w w1 w2:World}{F F1 F2:Nat→Prop}{m m1 m2:Mp}{H H1 H2:List Ob}{fz fz1 fz2:List Bool}
  (h:Ap w F m H fz w1 F1 m1 H1 fz1) (k:Ap w1 F1 m1 H1 fz1 w2 F2 m2 H2 fz2):Ap w F m H fz w2 F2 m2 H2 fz2:=⟨h.1.trans k.1,k.2⟩
section
variable {w w':World} {F:Nat→Prop} {m:Mp} {H:List Ob} {fz:List Bool}
theorem Ap.refl(hi:HI w F m H fz):Ap w F m H fz w F m H fz:=⟨Ext.refl ..,hi⟩
theorem Ap.grow(hi:HI w F m H fz)(h1:w'.os=w.os)(h2:w'.tape=w.tape)(h3:w'.output=w.output)(hsz:w.heap.size≤w'.heap.size)(hb:∀ b,b<w.heap.size→w'.heap[b]? = w.heap[b]?):
  Ap w F m H fz w' F m H fz:=by
 refine⟨⟨h1,h2,h3,hsz,fun b h _=>hb b h,fun _ h=>h,fun _ h=>.inl h,fun i b c h1 h2=>.inl ⟨i,c,h1,h2⟩,CF.refl H m⟩,?_,?_,hi.rfz,hi.sep,hi.off,hi.froz,fun b h=>Ap6 (hi.lt b h) hsz,hi.glo.mono (fun b hF=>hb b (hi.lt b hF)) (fun _ h=>h),hi.len⟩
 ·exact fun id o ho=>ObI.mono (fun b hF=>hb b (hi.lt b hF)) (fun _ h=>h) (CF.refl H m) (fun _ _ b c _ hlt=>hb b hlt) (hi.obj id o ho)
 ·exact fun i=>Bw.mono (fun b hF=>hb b (hi.lt b hF)) (fun _ h=>h) (CF.refl H m) rfl (fun _ _=>rfl) (fun _ _ _ b c _ hlt=>hb b hlt) (hi.row i)
theorem Ap.drew(hi:HI w F m H fz):Ap w F m H fz w.drew F m H fz:=Ap.grow hi rfl rfl rfl (Aop _) fun _ _=>rfl
def upd(m:Mp)(i:Nat)(l:Option (Nat×Nat)):Mp:=fun j=>if j = .o i then l else m j
theorem Aq(m:Mp)(i:Nat)(l:Option (Nat×Nat)):upd m i l i=l:=by simp[upd]
theorem EP{m:Mp}{i:Nat}{j:Ix}{l:Option (Nat×Nat)}(h:j≠.o i):upd m i l j=m j:=by simp[upd,h]
theorem Fk{m:Mp}{i j:Nat}{l:Option (Nat×Nat)}(h:j≠i):upd m i l j=m j:=EP (Alr h)
def Pc(m:Mp)(i:Nat)(l:Option (Nat×Nat))(f:Nat→Option (Nat×Nat)):Mp
 |.o j=>if j=i then l else m (.o j)
 |.r j k=>if j=i then f k else m (.r j k)
theorem K7{m:Mp}{i:Nat}{l:Option (Nat×Nat)}{f:Nat→Option (Nat×Nat)}:Pc m i l f (.o i)=l:=by simp[Pc]
theorem ALF{m:Mp}{i k:Nat}{l:Option (Nat×Nat)}{f:Nat→Option (Nat×Nat)}:Pc m i l f (.r i k)=f k:=by simp[Pc]
theorem HM{m:Mp}{i:Nat}{l:Option (Nat×Nat)}{f:Nat→Option (Nat×Nat)}{x:Ix}(h:x.id≠i):Pc m i l f x=m x:=by
 cases x with
 |o j=>have h:j≠i:=h;simp[Pc,h]
 |r j k=>have h:j≠i:=h;simp[Pc,h]
theorem ABJ{m:Mp}{i j:Nat}{l:Option (Nat×Nat)}(h:j≠i)(x:Ix)(hx:x.id=j):upd m i l x=m x:=EP (by rintro rfl;exact h hx.symm)
theorem Ad{H:List Ob}{i j:Nat}{o:Ob}(h:j≠i):(H.set i o)[j]? = H[j]? := by rw[ApM (ApN h)]
theorem BN{slot:Nat}(h:At H fz slot=true):H[slot]? = some .free∧fz.getD slot false=false:=by
 unfold At at h
 split at h
 ·rename_i h1;exact⟨h1,by simpa using h⟩
 ·cases h
theorem Al{H:List Ob}{i:Nat}{o:Ob}(h:H[i]? = some o):i<H.length:=by
 rcases ApT i H.length with h'|h'
 ·exact h'
 ·rw[ApD h']at h;cases h
theorem Aw{H:List Ob}{i:Nat}{o:Ob}(h:i<H.length):(H.set i o)[i]? = some o:=by simp[h]
def alive:Ob→Prop
 |.free=>False
 |.dead=>False
 |_=>True
theorem Ap.new(hi:HI w F m H fz){slot:Nat}(hs:At H fz slot=true){ob:Ob}(hal:alive ob)(l:Option (Nat×Nat))
  (h1:w'.os=w.os) (h2:w'.tape=w.tape) (h3:w'.output=w.output) (hsz:w.heap.size≤w'.heap.size) (hb:∀ b,b<w.heap.size→w'.heap[b]? = w.heap[b]?)
  (hl:∀ b c,l=some (b,c)→w.heap.size≤b)
  (ho:(∀ {a:AV} {v:Value},Rep w F m H a v→Rep w' F (upd m slot l) (H.set slot ob) a v)→ObI w' F (upd m slot l) (H.set slot ob) ob l) (hpl:BU ob=true:=by rfl) :
  Ap w F m H fz w' F (upd m slot l) (H.set slot ob) fz:=by
 obtain⟨hs1,hs2⟩:=BN hs
 have hlt:=Al hs1
 have hcell:∀ b,F b→w'.heap[b]? = w.heap[b]? := fun b hF=>hb b (hi.lt b hF)
 have hcomp:CF H (H.set slot ob) m (upd m slot l):=by
  intro i o hio hf
  have hne:i≠slot:=by rintro rfl;rw[hs1]at hio;cases hio;exact hf rfl
  rcases CF.refl H m i o hio hf with h|⟨hd,o',h4,h5,_⟩
  ·exact .inl (by rw[Ad hne];exact h)
  ·exact .inr ⟨hd,o',by rw[Ad hne];exact h4,h5,Fk hne,fun _ _ k=>EP (by simp)⟩
 have hown:∀ i:Ix,i≠.o slot→(owned (H.set slot ob) fz i↔owned H fz i):=fun i hne=>by
  by_cases hid:i.id=slot
  ·cases i with
   |o i=>exact absurd (AqD Ix.o hid) hne
   |r i k=>
    have hid:i=slot:=hid
    subst hid
    exact⟨fun h=>absurd h (E2 (Aw hlt) hpl),fun h=>absurd h (E2 hs1 rfl)⟩
  ·exact CV (Ad hid)
 refine⟨⟨h1,h2,h3,hsz,fun b h _=>hb b h,fun _ h=>h,fun _ h=>.inl h,?_,hcomp⟩,⟨?_,?_,?_,?_,?_,?_,fun b h=>Ap6 (hi.lt b h) hsz,hi.glo.mono hcell (fun _ h=>h),by simpa using hi.len⟩⟩
 ·intro i b c ho' hm
  by_cases hne:i = .o slot
  ·subst hne;rw[Aq]at hm;exact .inr (hl b c hm)
  ·rw[EP hne]at hm;exact .inl ⟨i,c,(hown i hne).1 ho',hm⟩
 ·intro id o hio
  by_cases hne:id=slot
  ·subst hne
   rw[Aw hlt]at hio;cases hio
   rw[Aq]
   exact ho fun h=>Rep.mono hcell (fun _ h=>h) hcomp _ h
  ·rw[Ad hne]at hio
   rw[Fk hne]
   exact ObI.mono hcell (fun _ h=>h) hcomp (fun _ _ b c _ hlt=>hb b hlt) (hi.obj id o hio)
 ·intro i
  by_cases hne:i=slot
  ·subst hne;exact Bw.plain (Aw hlt) hpl
  ·exact Bw.mono hcell (fun _ h=>h) hcomp (Ad hne) (fun x hx=>ABJ hne x hx) (fun _ _ _ b c _ hlt=>hb b hlt) (hi.row i)
 ·intro i T e t xs ver out hio hf x hx ht b c hm
  by_cases hne:i=slot
  ·subst hne;rw[Aw hlt]at hio;cases hio;cases hpl
  ·rw[ABJ hne x hx]at hm
   rw[Ad hne]at hio
   exact hi.rfz i T e t xs ver out hio hf x hx ((CS (by rw[hx];exact Ad hne)).1 ht) b c hm
 ·intro i j b c b' c' hoi hoj hij hmi hmj
  by_cases hi1:i = .o slot
  ·subst hi1
   have hj1:=ApN hij
   rw[Aq]at hmi
   rw[EP hj1]at hmj
   have:=hi.IJ ((hown j hj1).1 hoj) hmj
   have:=hl b c hmi
   omega
  ·rw[EP hi1]at hmi
   by_cases hj1:j = .o slot
   ·subst hj1
    rw[Aq]at hmj
    have:=hi.IJ ((hown i hi1).1 hoi) hmi
    have:=hl b' c' hmj
    omega
   ·rw[EP hj1]at hmj
    exact hi.sep i j b c b' c' ((hown i hi1).1 hoi) ((hown j hj1).1 hoj) hij hmi hmj
 ·intro i b c hoi hmi hF
  by_cases hi1:i = .o slot
  ·subst hi1;rw[Aq]at hmi
   have:=hl b c hmi
   have:=hi.lt b hF
   omega
  ·rw[EP hi1]at hmi
   exact hi.off i b c ((hown i hi1).1 hoi) hmi hF
 ·intro i T t xs b c hio hf hmi
  by_cases hi1:i=slot
  ·subst hi1;rw[hs2]at hf;cases hf
  ·rw[Fk hi1]at hmi;rw[Ad hi1]at hio
   exact hi.froz i T t xs b c hio hf hmi
theorem Ap.set(hi:HI w F m H fz){j b c:Nat}(hoj:owned H fz j)(hmj:m j=some (b,c)){o o':Ob}(hj:H[j]? = some o)(hss:sameShape o o')
  (h1:w'.os=w.os) (h2:w'.tape=w.tape) (h3:w'.output=w.output) (hsz:w'.heap.size=w.heap.size) (hb:∀ k,k≠b→w'.heap[k]? = w.heap[k]?)
  (ho:(∀ {a:AV} {v:Value},Rep w F m H a v→Rep w' F m (H.set j o') a v)→ObI w' F m (H.set j o') o' (m j)) (hpl:BU o'=true:=by rfl) :
  Ap w F m H fz w' F m (H.set j o') fz:=by
 have hlt:=Al hj
 have hcell:∀ b,F b→w'.heap[b]? = w.heap[b]? := fun k ha=>hb k (by rintro e;exact hi.off j b c hoj hmj (e▸ha))
 have hcomp:CF H (H.set j o') m m:=by
  intro i x hix hf
  by_cases hne:i=j
  ·subst hne
   rw[hj]at hix;cases hix
   exact .inr ⟨by rintro rfl;simp[sameShape]at hss,o',Aw hlt,hss,rfl,fun _ _ _=>rfl⟩
  ·rcases CF.refl H m i x hix hf with h|⟨hd,x',h4,h5,_⟩
   ·exact .inl (by rw[Ad hne];exact h)
   ·exact .inr ⟨hd,x',by rw[Ad hne];exact h4,h5,rfl,fun _ _ _=>rfl⟩
 have hown:∀ i:Ix,owned (H.set j o') fz i→owned H fz i:=fun i hoi=>by
  by_cases hid:i.id=j
  ·cases i with
   |o i=>have hid:i=j:=hid;subst hid;exact hoj
   |r i k=>have hid:i=j:=hid;subst hid;exact absurd hoi (E2 (Aw hlt) hpl)
  ·exact(CV (Ad hid)).1 hoi
 refine⟨⟨h1,h2,h3,Aqw hsz.symm,fun k _ hk=>hb k ?_,fun _ h=>h,fun _ h=>.inl h,fun i b c ho' hm=>.inl ⟨i,c,hown i ho',hm⟩,hcomp⟩,⟨?_,?_,?_,?_,?_,?_,fun b h=>by rw[hsz];exact hi.lt b h,hi.glo.mono hcell (fun _ h=>h),by simpa using hi.len⟩⟩
 ·rintro rfl
  exact hk j c hoj hmj
 ·intro id x hix
  by_cases hne:id=j
  ·subst hne
   rw[Aw hlt]at hix;cases hix
   exact ho fun h=>Rep.mono hcell (fun _ h=>h) hcomp _ h
  ·rw[Ad hne]at hix
   exact ObI.mono hcell (fun _ h=>h) hcomp (fun n1 n2 b' c' hm _=>hb b' (hi.ne hoj hmj hix n1 n2 hm hne)) (hi.obj id x hix)
 ·intro i
  by_cases hne:i=j
  ·subst hne;exact Bw.plain (Aw hlt) hpl
  ·exact Bw.mono hcell (fun _ h=>h) hcomp (Ad hne) (fun _ _=>rfl) (fun x hx hox b' c' hm _=>hb b' (hi.neX hoj hmj hox hm (by rintro rfl;exact hne hx.symm))) (hi.row i)
 ·intro i T e t xs ver out hio hf x hx ht b' c' hm
  by_cases hne:i=j
  ·subst hne;rw[Aw hlt]at hio;cases hio;cases hpl
  ·rw[Ad hne]at hio
   exact hi.rfz i T e t xs ver out hio hf x hx ((CS (by rw[hx];exact Ad hne)).1 ht) b' c' hm
 ·exact fun i k b c b' c' hoi hok=>hi.sep i k b c b' c' (hown i hoi) (hown k hok)
 ·exact fun i b c hoi=>hi.off i b c (hown i hoi)
 ·intro i T t xs b' c' hio hf hmi
  by_cases hne:i=j
  ·subst hne
   rw[Aw hlt]at hio;cases hio
   cases o<;>simp only[sameShape]at hss
   simp only[owned,Bn]at hoj;rw[hj]at hoj
   simp only at hoj
   rw[hoj]at hf;cases hf
  ·rw[Ad hne]at hio
   exact hi.froz i T t xs b' c' hio hf hmi
theorem Ap.move(hi:HI w F m H fz){j b c slot:Nat}(hoj:owned H fz j)(hmj:m j=some (b,c))(hs:At H fz slot=true){ob:Ob}(hal:alive ob){b' c':Nat}
  (hb':b'=b∨w.heap.size≤b')
  (h1:w'.os=w.os) (h2:w'.tape=w.tape) (h3:w'.output=w.output) (hsz:w.heap.size≤w'.heap.size) (hb:∀ k,k<w.heap.size→k≠b→w'.heap[k]? = w.heap[k]?)
  (ho:(∀ {a:AV} {v:Value},Rep w F m H a v→Rep w' F (upd m slot (some (b',c'))) ((H.set j .dead).set slot ob) a v)→ObI w' F (upd m slot (some (b',c'))) ((H.set j .dead).set slot ob) ob (some (b',c'))) (hpl:BU ob=true:=by rfl) :
  Ap w F m H fz w' F (upd m slot (some (b',c'))) ((H.set j .dead).set slot ob) fz:=by
 obtain⟨hs1,hs2⟩:=BN hs
 obtain⟨oj,hj,hjf,hjd⟩:=E4 hoj
 have hjs:j≠slot:=by rintro rfl;rw[hs1]at hj;cases hj;exact hjf rfl
 have hltj:=Al hj
 have hlts:=Al hs1
 have hgs:((H.set j .dead).set slot ob)[slot]? = some ob:=Aw (by simpa using hlts)
 have hgj:((H.set j .dead).set slot ob)[j]? = some .dead:=by rw[Ad hjs,Aw hltj]
 have hgo:∀ i,i≠j→i≠slot→((H.set j .dead).set slot ob)[i]? = H[i]? := fun i h4 h5=>by rw[Ad h5,Ad h4]
 have hbF:¬ F b:=hi.off j b c hoj hmj
 have hcell:∀ b,F b→w'.heap[b]? = w.heap[b]? := fun k ha=>hb k (hi.lt _ ha) (by rintro e;exact hbF (e▸ha))
 have hcomp:CF H ((H.set j .dead).set slot ob) m (upd m slot (some (b',c'))):=by
  intro i x hix hf
  have hne:i≠slot:=by rintro rfl;rw[hs1]at hix;cases hix;exact hf rfl
  by_cases hij:i=j
  ·subst hij;exact .inl hgj
  ·rcases CF.refl H m i x hix hf with h|⟨hd,x',h4,h5,_⟩
   ·exact .inl (by rw[hgo i hij hne];exact h)
   ·exact .inr ⟨hd,x',by rw[hgo i hij hne];exact h4,h5,Fk hne,fun _ _ k=>EP (by simp)⟩
 have hown:∀ i:Ix,i≠.o slot→owned ((H.set j .dead).set slot ob) fz i→owned H fz i∧i≠.o j:=fun i hne hoi=>by
  by_cases hid:i.id=slot
  ·cases i with
   |o i=>exact absurd (AqD Ix.o hid) hne
   |r i k=>have hid:i=slot:=hid;subst hid;exact absurd hoi (E2 hgs hpl)
  ·by_cases hij:i.id=j
   ·obtain⟨o,ho,_,hd⟩:=C6 hoi
    rw[hij,hgj]at ho;cases ho;exact absurd rfl hd
   ·exact⟨(CV (hgo i.id hij hid)).1 hoi,by rintro rfl;exact hij rfl⟩
 refine⟨⟨h1,h2,h3,hsz,fun k hk hn=>hb k hk ?_,fun _ h=>h,fun _ h=>.inl h,?_,hcomp⟩,⟨?_,?_,?_,?_,?_,?_,fun b h=>Ap6 (hi.lt b h) hsz,hi.glo.mono hcell (fun _ h=>h),by simpa using hi.len⟩⟩
 ·rintro rfl;exact hn j c hoj hmj
 ·intro i b2 c2 ho' hm
  by_cases hne:i = .o slot
  ·subst hne;rw[Aq]at hm;cases hm
   rcases hb' with h|h
   ·exact .inl ⟨j,c,hoj,by rw[h];exact hmj⟩
   ·exact .inr h
  ·rw[EP hne]at hm;exact .inl ⟨i,c2,(hown i hne ho').1,hm⟩
 ·intro id x hix
  by_cases hne:id=slot
  ·subst hne
   rw[hgs]at hix;cases hix
   rw[Aq]
   exact ho fun h=>Rep.mono hcell (fun _ h=>h) hcomp _ h
  ·rw[Fk hne]
   by_cases hij:id=j
   ·subst hij;rw[hgj]at hix;cases hix;trivial
   ·rw[hgo id hij hne]at hix
    exact ObI.mono hcell (fun _ h=>h) hcomp (fun n1 n2 b2 c2 hm hlt=>hb b2 hlt (hi.ne hoj hmj hix n1 n2 hm hij)) (hi.obj id x hix)
 ·intro i
  by_cases hne:i=slot
  ·subst hne;exact Bw.plain hgs hpl
  ·by_cases hij:i=j
   ·subst hij;exact Bw.plain hgj rfl
   ·exact Bw.mono hcell (fun _ h=>h) hcomp (hgo i hij hne) (fun x hx=>ABJ hne x hx) (fun x hx hox b2 c2 hm hlt=>hb b2 hlt (hi.neX hoj hmj hox hm (by rintro rfl;exact hij hx.symm))) (hi.row i)
 ·intro i T e t xs ver out hio hf x hx ht b2 c2 hm
  by_cases hne:i=slot
  ·subst hne;rw[hgs]at hio;cases hio;cases hpl
  ·by_cases hij:i=j
   ·subst hij;rw[hgj]at hio;cases hio
   ·rw[hgo i hij hne]at hio
    rw[ABJ hne x hx]at hm
    exact hi.rfz i T e t xs ver out hio hf x hx ((CS (by rw[hx];exact hgo i hij hne)).1 ht) b2 c2 hm
 ·intro i k b1 c1 b2 c2 hoi hok hik hmi hmk
  by_cases hi1:i = .o slot
  ·subst hi1
   have hk1:=ApN hik
   rw[Aq]at hmi;cases hmi
   rw[EP hk1]at hmk
   obtain⟨hok,hkj⟩:=hown k hk1 hok
   rcases hb' with rfl|h
   ·exact(hi.sep k j b2 c2 b' c hok hoj hkj hmk hmj).symm
   ·have:=hi.IJ hok hmk;omega
  ·rw[EP hi1]at hmi
   obtain⟨hoi',hij⟩:=hown i hi1 hoi
   by_cases hk1:k = .o slot
   ·subst hk1
    rw[Aq]at hmk;cases hmk
    rcases hb' with rfl|h
    ·exact hi.sep i j b1 c1 b' c hoi' hoj hij hmi hmj
    ·have:=hi.IJ hoi' hmi;omega
   ·rw[EP hk1]at hmk
    exact hi.sep i k b1 c1 b2 c2 hoi' (hown k hk1 hok).1 hik hmi hmk
 ·intro i b1 c1 hoi hmi hF
  by_cases hi1:i = .o slot
  ·subst hi1;rw[Aq]at hmi;cases hmi
   rcases hb' with rfl|h
   ·exact hbF hF
   ·have:=hi.lt _ hF;omega
  ·rw[EP hi1]at hmi
   exact hi.off i b1 c1 (hown i hi1 hoi).1 hmi hF
 ·intro i T t xs b1 c1 hio hf hmi
  by_cases hi1:i=slot
  ·subst hi1;rw[hs2]at hf;cases hf
  ·rw[Fk hi1]at hmi
   by_cases hij:i=j
   ·subst hij;rw[hgj]at hio;cases hio
   ·rw[hgo i hij hi1]at hio
    exact hi.froz i T t xs b1 c1 hio hf hmi
def Abz(H:List Ob)(x:Ix):Prop:=there H x∧((∃ T t xs,H[x.id]? = some (.arr T t xs))∨∃ T e t xs ver out,H[x.id]? = some (.rows T e t xs ver out))
def DB(F:Nat→Prop)(m:Mp)(H:List Ob)(ids:List Nat)(b:Nat):Prop:=
 F b∨∃ x:Ix,x.id∈ids∧Abz H x∧∃ c,m x=some (b,c)
theorem Cy(ids:List Nat):∀ (fz:List Bool),(Ak ids fz).length=fz.length:=by
 induction ids with
 |nil=>intro fz;rfl
 |cons a ids ih=>intro fz;rw[Ak,ih,Apf]
theorem Ax(ids:List Nat):∀ (fz:List Bool) (i:Nat),(Ak ids fz).getD i false=(fz.getD i false||(decide (i∈ids)&&decide (i<fz.length))):=by
 induction ids with
 |nil=>intro fz i;simp[Ak]
 |cons a ids ih=>
  intro fz i
  rw[Ak,ih,Apf]
  simp only[Aoj]
  by_cases hia:i=a
  ·subst hia
   by_cases hl:i<fz.length
   ·simp[hl]
   ·simp[hl]
  ·rw[ApM (ApN hia)]
   simp[hia]
theorem Ap.freeze(hi:HI w F m H fz)(ids:List Nat):Ap w F m H fz w (DB F m H ids) m H (Ak ids fz):=by
 have hlen:∀ {i:Nat} {o:Ob},H[i]? = some o→i<fz.length:=fun h=>Ap6 (Al h) (Aqw hi.len)
 have unf:∀ {i:Nat},(Ak ids fz).getD i false=false→i<fz.length→fz.getD i false=false∧i∉ids:=by
  intro i h hl
  rw[Ax]at h
  simp only[Aqn,Bool.and_eq_false_iff,Apg]at h
  exact⟨h.1,h.2.elim id fun h'=>absurd hl h'⟩
 have hown:∀ x:Ix,owned H (Ak ids fz) x→owned H fz x∧(x.id∉ids∨¬ Abz H x):=by
  intro x ho
  cases x with
  |r i k=>
   simp only[owned]at ho ⊢
   split at ho
   ·rename_i T e t xs ver out h1
    obtain⟨h2,h3⟩:=unf ho.2 (hlen h1)
    exact⟨⟨ho.1,h2⟩,.inl h3⟩
   ·exact ho.elim
  |o i=>
   simp only[owned,Bn]at ho ⊢
   cases hio:H[i]? with
   |none=>rw[hio]at ho;exact ho.elim
   |some o=>
    rw[hio]at ho
    have no:((∃ T t xs,o=Ob.arr T t xs)∨∃ T e t xs ver out,o=Ob.rows T e t xs ver out)∨¬ Abz H (.o i):=by
     by_cases h:(∃ T t xs,o=Ob.arr T t xs)∨∃ T e t xs ver out,o=Ob.rows T e t xs ver out
     ·exact .inl h
     ·refine .inr fun ⟨_,h2⟩=>h ?_
      rcases h2 with⟨T,t,xs,h2⟩|⟨T,e,t,xs,ver,out,h2⟩
      ·have h2:H[i]? = some (.arr T t xs):=h2
       rw[hio]at h2;exact .inl ⟨T,t,xs,Apr h2⟩
      ·have h2:H[i]? = some (.rows T e t xs ver out):=h2
       rw[hio]at h2;exact .inr ⟨T,e,t,xs,ver,out,Apr h2⟩
    cases o with
    |free=>exact ho.elim
    |dead=>exact ho.elim
    |box cs=>exact⟨trivial,.inr (no.resolve_left (by simp))⟩
    |map k v es=>exact⟨trivial,.inr (no.resolve_left (by simp))⟩
    |prs T tgt is=>exact⟨trivial,.inr (no.resolve_left (by simp))⟩
    |rows T e t xs ver out=>obtain⟨h2,h3⟩:=unf ho (hlen hio);exact⟨h2,.inl h3⟩
    |arr T t xs=>obtain⟨h2,h3⟩:=unf ho (hlen hio);exact⟨h2,.inl h3⟩
 have hsub:∀ b,F b→DB F m H ids b:=fun b h=>.inl h
 have hownS:∀ x:Ix,Abz H x→owned H fz x∨(∀ b c,m x=some (b,c)→F b):=by
  rintro x ⟨ht,⟨T,t,xs,h⟩|⟨T,e,t,xs,ver,out,h⟩⟩
  ·cases x with
   |r i k=>exact absurd ht (AQN h rfl)
   |o i=>
    have h:H[i]? = some (.arr T t xs):=h
    cases hx:fz.getD i false with
    |true=>exact .inr fun b c hm=>hi.froz i T t xs b c h hx hm
    |false=>exact .inl (by simp only[owned,Bn];rw[h];exact hx)
  ·cases hx:fz.getD x.id false with
   |true=>exact .inr fun b c hm=>hi.rfz x.id T e t xs ver out h hx x rfl ht b c hm
   |false=>
    left
    cases x with
    |o i=>simp only[owned,Bn];rw[show H[i]? = _ from h];exact hx
    |r i k=>
     simp only[owned,there]at ht ⊢
     rw[show H[i]? = _ from h]at ht ⊢
     exact⟨ht,hx⟩
 refine⟨⟨rfl,rfl,rfl,Aop _,fun _ _ _=>rfl,hsub,?_,fun i b c h1 h2=>.inl ⟨i,c,(hown i h1).1,h2⟩,CF.refl H m⟩,⟨?_,?_,?_,?_,?_,?_,?_,hi.glo.mono (fun _ _=>rfl) hsub,by rw[Cy];exact hi.len⟩⟩
 ·rintro b (h|⟨x,hx,h4,c,h5⟩)
  ·exact .inl h
  ·rcases hownS x h4 with h|h
   ·exact .inr (.inl ⟨x,c,h,h5⟩)
   ·exact .inl (h b c h5)
 ·exact fun id o ho=>ObI.mono (fun _ _=>rfl) hsub (CF.refl H m) (fun _ _ _ _ _ _=>rfl) (hi.obj id o ho)
 ·exact fun i=>Bw.mono (fun _ _=>rfl) hsub (CF.refl H m) rfl (fun _ _=>rfl) (fun _ _ _ _ _ _ _=>rfl) (hi.row i)
 ·intro i T e t xs ver out hio hf x hx ht b c hm
  rw[Ax]at hf
  simp only[AqF,Aol,Aok]at hf
  rcases hf with hf|⟨hf,_⟩
  ·exact .inl (hi.rfz i T e t xs ver out hio hf x hx ht b c hm)
  ·exact .inr ⟨x,by rw[hx];exact hf,⟨ht,.inr ⟨T,e,t,xs,ver,out,by rw[hx];exact hio⟩⟩,c,hm⟩
 ·exact fun i j b c b' c' h1 h2=>hi.sep i j b c b' c' (hown i h1).1 (hown j h2).1
 ·rintro i b c h1 h2 (hF|⟨x,hx,h4,c',h5⟩)
  ·exact hi.off i b c (hown i h1).1 h2 hF
  ·have hki:x≠i:=by
    rintro rfl
    rcases(hown x h1).2 with h7|h7
    ·exact h7 hx
    ·exact h7 h4
   exact hi.neX (hown i h1).1 h2 h4.1 h5 hki rfl
 ·intro i T t xs b c hio hf hmi
  rw[Ax]at hf
  simp only[AqF,Aol,Aok]at hf
  rcases hf with hf|⟨hf,_⟩
  ·exact .inl (hi.froz i T t xs b c hio hf hmi)
  ·exact .inr ⟨.o i,hf,⟨⟨_,hio,by simp,by simp⟩,.inl ⟨T,t,xs,hio⟩⟩,c,hmi⟩
 ·rintro b (h|⟨x,_,h4,c,h5⟩)
  ·exact hi.lt b h
  ·exact hi.AS5 h4.1 h5
end
end Go.Pev
end
section
namespace Go.Pev
open Go.RowKit
theorem Hp(a:Addr)(n:Nat):(a.add n).block=a.block:=by unfold Addr.add;split<;>rfl
theorem add_add(a:Addr)(i j:Nat):(a.add i).add j=a.add (i+j):=by
 unfold Addr.add
 by_cases hi:i=0<;>by_cases hj:j=0<;>simp[hi,hj,ArU]
theorem B7(b o n:Nat):(⟨b,o,none⟩:Addr).add n=⟨b,o+n,none⟩:=by unfold Addr.add;split<;>simp_all
theorem Cr{t t':Ty}{d:t.den}{x:t'.den}(h:cast d=some x):∃ e:t=t',e▸d=x:=by
 unfold cast at h
 split at h
 ·rename_i e;exact⟨e,by simpa using h⟩
 ·cases h
theorem CM{t t':Ty}{d:List t.den}{x:List t'.den}(h:Mt d=some x):∃ e:t=t',e▸d=x:=by
 unfold Mt at h
 split at h
 ·rename_i e;exact⟨e,by simpa using h⟩
 ·cases h
theorem Dw{α:Type}{R:α→List Value→Prop}{k:Nat}(hk:∀ x cs,R x cs→cs.length=k):∀ {xs:List α} {cs:List Value} (n:Nat),rows R xs cs→rows R (xs.take n) (cs.take (n*k)):=by
 intro xs
 induction xs with
 |nil=>rintro cs n rfl;simp[rows]
 |cons x xs ih=>
  rintro cs n ⟨c1,c2,rfl,h1,h2⟩
  cases n with
  |zero=>simp[rows]
  |succ n=>
   have hl:=hk _ _ h1
   refine⟨c1,c2.take (n*k),?_,h1,ih n h2⟩
   rw[Aqf,Api,AqN,Apq (by omega)]
   congr 2
   omega
theorem Hh{α:Type}{R:α→List Value→Prop}{k:Nat}(hk:∀ x cs,R x cs→cs.length=k):∀ {xs:List α} {cs:List Value} (n:Nat),rows R xs cs→rows R (xs.drop n) (cs.drop (n*k)):=by
 intro xs
 induction xs with
 |nil=>rintro cs n rfl;simp[rows]
 |cons x xs ih=>
  rintro cs n ⟨c1,c2,rfl,h1,h2⟩
  cases n with
  |zero=>simp only[Aqk,ArJ];exact⟨c1,c2,rfl,h1,h2⟩
  |succ n=>
   have hl:=hk _ _ h1
   have e:(c1++c2).drop ((n+1)*k)=c2.drop (n*k):=by
    rw[Api,AqN,Arr,Apz (show c1.length≤n*k+k by omega),ApI]
    congr 1;omega
   rw[e,List.drop_succ_cons]
   exact ih n h2
theorem KV{α:Type}{R:α→List Value→Prop}{k:Nat}(hk:∀ x cs,R x cs→cs.length=k){xs:List α}{cs:List Value}(h:rows R xs cs){i:Nat}{x:α}(hx:xs[i]? = some x):
  R x ((cs.drop (i*k)).take k):=by
 have h1:=Dw hk 1 (Hh hk i h)
 rw[AqN]at h1
 have h2:(xs.drop i).take 1=[x]:=by
  have hlt:i<xs.length:=by
   rcases ApT i xs.length with h'|h'
   ·exact h'
   ·rw[ApD h']at hx;cases hx
  rw[Apc hlt]
  rw[Aon hlt]at hx
  injection hx with hx
  simp[hx]
 rw[h2]at h1
 obtain⟨c1,c2,e,h3,rfl⟩:=h1
 rw[Apw]at e
 rw[e];exact h3
theorem H9{α:Type}{R:α→List Value→Prop}{xs ys:List α}{cs ds:List Value}(h:rows R xs cs)(h':rows R ys ds):rows R (xs++ys) (cs++ds):=by
 induction xs generalizing cs with
 |nil=>cases h;simpa using h'
 |cons x xs ih=>
  obtain⟨c1,c2,rfl,h1,h2⟩:=h
  exact⟨c1,c2++ds,by simp,h1,ih h2⟩
theorem AQz{α:Type}{R:α→List Value→Prop}{k:Nat}(hk:∀ x cs,R x cs→cs.length=k):∀ {xs:List α} {cs:List Value} {i:Nat} {y:α} {ds:List Value},rows R xs cs→i<xs.length→R y ds →
  rows R (xs.set i y) (cs.take (i*k)++ds++cs.drop (i*k+k)):=by
 intro xs
 induction xs with
 |nil=>intro cs i y ds _ hi;simp at hi
 |cons x xs ih=>
  rintro cs i y ds ⟨c1,c2,rfl,h1,h2⟩ hi hy
  have hl:=hk _ _ h1
  cases i with
  |zero=>
   simp only[List.set_cons_zero,ArJ,List.take_zero,ApI,Aph]
   refine⟨ds,c2,?_,hy,h2⟩
   rw[Arr,Apz (by omega),← hl,AqP];simp
  |succ i=>
   simp only[List.set_cons_succ]
   refine⟨c1,_,?_,h1,ih h2 (by simpa using hi) hy⟩
   rw[Api,AqN,Aqf,Apq (show c1.length≤i*k+k by omega),Arr,Apz (show c1.length≤i*k+k+k by omega)]
   simp only[Apu,ApI]
   rw[show i*k+k-c1.length=i*k from by omega,show i*k+k+k-c1.length=i*k+k from by omega]
section
variable {w:World} {F:Nat→Prop} {m:Mp} {H:List Ob} {fz:List Bool}
theorem AfZ{ids ids':List Nat}(h:∀ i∈ids,i∈ids'){b:Nat}(hb:DB F m H ids b):DB F m H ids' b:=by
 rcases hb with hb|⟨i,hi,r⟩
 ·exact .inl hb
 ·exact .inr ⟨i,h i.id hi,r⟩
theorem Dat.frz{t:Ty}{d:t.den}{cs:List Value}{ids:List Nat}(h:Dat w F t d cs):Dat w (DB F m H ids) t d cs:=h.mono (fun _ _=>rfl) (fun _=>.inl) t
theorem Dat.Ajm{t:Ty}{d:t.den}{cs:List Value}{ids ids':List Nat}(hh:∀ i∈ids,i∈ids')(h:Dat w (DB F m H ids) t d cs):Dat w (DB F m H ids') t d cs:=h.mono (fun _ _=>rfl) (fun _=>AfZ hh) t
theorem Cd{vs:Array Value}{row:List Value}(h:vs.toList.take row.length=row){j:Nat}{u:Value}(hu:row[j]? = some u):vs[j]? = some u:=by
 rw[← h,ApU]at hu
 split at hu
 ·simpa using hu
 ·cases hu
theorem Xk{F':Nat→Prop}{l:Option (Nat×Nat)}{T:TypeId}{e:Ty}{xs:List e.den}(h:ObI w F m H (.arr T e xs) l){v:Value}(hr:A8 (some (.arr T e xs)) l v)(hF:∀ b,F b→F' b)(hl:∀ b c,l=some (b,c)→F' b):
  Dat w F' (.slice e) xs [v]:=by
 obtain⟨_,h⟩:=h
 cases l with
 |none=>
  obtain⟨a,rfl⟩:=hr
  simp only at h;subst h
  exact⟨a,0,rfl,Aop _,fun h=>absurd rfl h⟩
 |some p=>
  obtain⟨b,cap⟩:=p
  obtain⟨vs,row,e1,e2,e3,e4,e5,e6⟩:=h
  simp only[A8]at hr;subst hr
  refine⟨_,cap,rfl,e2,fun _=>⟨_,row,rfl,hl b cap rfl,BM (fun x _ cs hx=>hx.mono (fun _ _=>rfl) hF e) e5,fun j u hu => ?_⟩⟩
  rw[B7]
  simp only[World.cell?,e1,Aph]
  exact Cd e6 hu
theorem Aby{id:Nat}{T:TypeId}{e:Ty}{xs:List e.den}(ho:H[id]? = some (.arr T e xs)){b c:Nat}(hm:m id=some (b,c)):DB F m H [id] b:=
 .inr ⟨.o id,by simp[Ix.id],⟨⟨_,ho,by simp,by simp⟩,.inl ⟨T,e,xs,ho⟩⟩,c,hm⟩
theorem AZb(hi:HI w F m H fz){id:Nat}{T:TypeId}{e:Ty}{xs:List e.den}(ho:H[id]? = some (.arr T e xs)){v:Value}(hr:A8 (some (.arr T e xs)) (m id) v):
  Dat w (DB F m H [id]) (.slice e) xs [v]:=Xk (hi.obj id _ ho) hr (fun _=>.inl) fun _ _ hm=>Aby ho hm
theorem AdV{α:Type}{R:α→List Value→Prop}:∀ {xs:List α} {us:List Value},us.length=xs.length→(∀ (k:Nat) (x:α) (u:Value),xs[k]? = some x→us[k]? = some u→R x [u])→rows R xs us:=by
 intro xs
 induction xs with
 |nil=>intro us hl _;exact Ao6 hl
 |cons x xs ih=>
  intro us hl h
  match us,hl with
  |u::us,hl=>exact⟨[u],us,rfl,h 0 x u rfl rfl,ih (by simpa using hl) fun k y v hy hv=>h (k+1) y v hy hv⟩
theorem AUA(hi:HI w F m H fz){id:Nat}{T e:TypeId}{t:Ty}{xs:List (List t.den)}{ver:Nat}(ho:H[id]? = some (.rows (.arr T) e t xs ver none)){v:Value}(hr:A8 (some (.rows (.arr T) e t xs ver none)) (m id) v):
  Dat w (DB F m H [id]) (.slice (.slice t)) xs [v]:=by
 obtain⟨_,h⟩:=hi.obj id _ ho
 have hfr:∀ x:Ix,x.id=id→there H x→∀ b c,m x=some (b,c)→DB F m H [id] b:=fun x hx ht b c hm=>.inr ⟨x,by simp[hx],⟨ht,.inr ⟨.arr T,e,t,xs,ver,none,by rw[hx];exact ho⟩⟩,c,hm⟩
 cases hm:m id with
 |none=>
  rw[hm]at h hr
  obtain⟨a,rfl⟩:=hr
  obtain⟨_,h⟩:=h;subst h
  exact⟨a,0,rfl,Aop _,fun h=>absurd rfl h⟩
 |some p=>
  obtain⟨b,cap⟩:=p
  rw[hm]at h hr
  obtain⟨vs,e1,e2,e3,e4,e5⟩:=h
  simp only[A8]at hr;subst hr
  refine⟨_,cap,rfl,e2,fun _=>⟨_,vs.toList.take (List.length (α:=List t.den) xs),rfl,hfr (.o id) rfl ⟨_,ho,by simp,by simp⟩ b cap hm,AdV (by rw[Ao8,show vs.toList.length=cap from e4];exact Aps e2) fun k ys u hk hu => ?_,fun j u hu => ?_⟩⟩
  ·obtain⟨h1,h2⟩:=hi.row id _ e t xs ver none ho k ys hk
   obtain⟨b',cap',u',a1,⟨vs',a2,a3⟩,a4⟩:=h2 (by simp)
   rw[hm]at a1;cases a1
   rw[e1]at a2;cases a2
   have hlt:k<List.length (α:=List t.den) xs:=by
    rcases ApT k (List.length (α:=List t.den) xs)with h'|h'
    ·exact h'
    ·rw[ApD h']at hk;cases hk
   rw[ApU,Aoq hlt,a3]at hu
   cases hu
   exact Xk h1 a4 (fun _=>.inl) (hfr (.r id k) rfl (by simp only[there];rw[ho];exact hlt))
  ·rw[B7]
   simp only[World.cell?,e1,Aph]
   rw[ApU]at hu
   split at hu
   ·simpa using hu
   ·cases hu
theorem Aj0{α β:Type}{K:α→Value→Prop}{V:β→Value→Prop}:∀ {es:List (α×β)} {ms:List MapEntry},ms.length=es.length→(∀ (k:Nat) (x:α×β) (u:MapEntry),es[k]? = some x→ms[k]? = some u→K x.1 u.key∧V x.2 u.val)→AFt K V es ms:=by
 intro es
 induction es with
 |nil=>intro us hl _;exact Ao6 hl
 |cons x xs ih=>
  intro us hl h
  match us,hl with
  |u::us,hl=>
   obtain⟨h1,h2⟩:=h 0 x u rfl rfl
   exact⟨u,us,rfl,h1,h2,ih (by simpa using hl) fun k y v hy hv=>h (k+1) y v hy hv⟩
theorem AOc(hi:HI w F m H fz){id:Nat}{j:IntKind}{ks:List Int}{e:TypeId}{t:Ty}{xs:List (List t.den)}{ver:Nat}(ho:H[id]? = some (.rows (.map j ks) e t xs ver none)){v:Value}(hr:Mu (some (.rows (.map j ks) e t xs ver none)) (m id) v):
  Dat w (DB F m H [id]) (.mapi j (.slice t)) (List.zip (β:=List t.den) ks xs) [v]:=by
 obtain⟨_,h⟩:=hi.obj id _ ho
 have hfr:∀ x:Ix,x.id=id→there H x→∀ b c,m x=some (b,c)→DB F m H [id] b:=fun x hx ht b c hm=>.inr ⟨x,by simp[hx],⟨ht,.inr ⟨.map j ks,e,t,xs,ver,none,by rw[hx];exact ho⟩⟩,c,hm⟩
 obtain⟨b,cap,hm,rfl⟩:=hr
 rw[hm]at h
 obtain⟨ms,clock,e1,e2,e3,e4,_⟩:=h
 have hxk:List.length (α:=List t.den) xs=ks.length:=by rcases e4 with h|⟨h,_⟩;exact h;cases h
 have hmk:ms.toList.length=ks.length:=by have:=AqD List.length e3;simpa using this
 refine⟨b,ms,clock,rfl,hfr (.o id) rfl ⟨_,ho,by simp,by simp⟩ b cap hm,e1,Aj0 (by rw[hmk,List.length_zip,hxk,Nat.min_self]) fun k x u hx hu => ?_⟩
 rw[List.getElem?_zip_eq_some]at hx
 obtain⟨hk,hys⟩:=hx
 obtain⟨h1,h2⟩:=hi.row id _ e t xs ver none ho k x.2 hys
 obtain⟨b',cap',u',a1,⟨ms',clock',en,a2,a3,rfl⟩,a4⟩:=h2 (by simp)
 rw[hm]at a1;cases a1
 rw[e1]at a2;cases a2
 rw[hu]at a3;cases a3
 have hlt:k<List.length (α:=List t.den) xs:=by
  rcases ApT k (List.length (α:=List t.den) xs)with h'|h'
  ·exact h'
  ·rw[ApD h']at hys;cases hys
 refine⟨?_,Xk h1 a4 (fun _=>.inl) (hfr (.r id k) rfl (by simp only[there];rw[ho];exact hlt))⟩
 have:=AqD (fun l:List Value=>l[k]?) e3
 simp only[ApV,hu,hk,AqQ,Aoh]at this
 exact this
theorem AZa(hi:HI w F m H fz){id:Nat}{T:TypeId}{e:Ty}{xs:List e.den}(ho:H[id]? = some (.arr T e xs)){off n:Nat}{v:Value}(hr:HE (some (.arr T e xs)) (m id) off n v):
  Dat w (DB F m H [id]) (.slice e) (DS off n xs) [v]:=by
 have h:=hi.obj id _ ho
 obtain⟨_,h⟩:=h
 obtain⟨hle,hr⟩:=hr
 have hlen:(DS off n xs).length=n:=by unfold DS;rw[Ao8,ApW];omega
 cases hm:m id with
 |none=>
  rw[hm]at h hr
  obtain⟨a,rfl⟩:=hr
  simp only at h;subst h
  have hn:n=0:=by have:=hle;simp at this;exact this.2
  refine⟨a,0,by rw[hlen],by rw[hlen];omega,fun h=>absurd ?_ h⟩
  simp[DS]
 |some p=>
  obtain⟨b,cap⟩:=p
  rw[hm]at h hr
  obtain⟨vs,row,e1,e2,e3,e4,e5,e6⟩:=h
  obtain⟨a,rfl,ha⟩:=hr
  have hk:=fun(x:e.den) cs (h:Dat w F e x cs)=>Dat.length e h
  refine⟨a,cap-off,by rw[hlen],by rw[hlen];omega,fun hne => ?_⟩
  have hn:0<n:=by
   rcases Ap1 n with h0|h0
   ·exact absurd (Ao6 (hlen.trans h0)) hne
   ·exact h0
  refine⟨_,(row.drop (off*e.size)).take (n*e.size),ha (by omega),Aby ho hm,BM (fun x _ cs hx=>hx.frz) (Dw hk n (Hh hk off e5)),fun j u hu => ?_⟩
  rw[B7]
  simp only[World.cell?,e1]
  rw[ApU]at hu
  split at hu
  ·rw[Apk]at hu
   exact Cd e6 hu
  ·cases hu
theorem AKo(hi:HI w F m H fz){t:Ty}{v:AV}{x:t.den}{fr:List Nat}(h:Dq H t v=some (x,fr))(ht:t.isAgg=false){u:Value}(hr:Rep w F m H v u):Dat w (DB F m H fr) t x [u]:=by
 unfold Dq at h
 split at h
 ·rename_i t' d
  simp only[Aoy,ApC]at h
  obtain⟨y,h1,rfl,rfl⟩:=h
  obtain⟨e,h2⟩:=Cr h1
  subst e;simp only at h2;subst h2
  unfold Rep Bg at hr
  rw[ht]at hr
  exact Dat.frz (by simpa using hr)
 ·rename_i e' d
  simp only[Aoy,ApC]at h
  obtain⟨y,h1,rfl,rfl⟩:=h
  obtain⟨e,h2⟩:=Cr h1
  subst e;simp only at h2;subst h2
  unfold Rep at hr
  exact Dat.frz hr.1
 ·split at h
  ·simp only[Aoh,ApC]at h
   obtain⟨rfl,rfl⟩:=h
   unfold Rep at hr;subst hr
   exact⟨none,0,rfl,Aop _,fun h=>absurd rfl h⟩
  ·simp only[Aoh,ApC]at h
   obtain⟨_,rfl⟩:=h
   unfold Rep at hr;subst hr
   rfl
  ·cases h
 ·rename_i id
  split at h
  ·rename_i T e xs ho
   simp only[Aoy,ApC]at h
   obtain⟨y,h1,rfl,rfl⟩:=h
   obtain⟨e',h2⟩:=Cr h1
   subst e';simp only at h2;subst h2
   unfold Rep at hr
   rw[ho]at hr
   exact AZb hi ho hr
  ·cases h
 ·rename_i id off n
  split at h
  ·rename_i T e xs ho
   simp only[Aoy,ApC]at h
   obtain⟨y,h1,rfl,rfl⟩:=h
   obtain⟨e',h2⟩:=Cr h1
   subst e';simp only at h2;subst h2
   unfold Rep at hr
   rw[ho]at hr
   exact AZa hi ho hr
  ·cases h
 ·rename_i id
  split at h
  ·rename_i j ks _ e xs ver ho
   simp only[Aoy,ApC]at h
   obtain⟨y,h1,rfl,rfl⟩:=h
   obtain⟨e',h2⟩:=Cr h1
   subst e';simp only at h2;subst h2
   unfold Rep at hr
   rw[ho]at hr
   exact AOc hi ho hr
  ·cases h
 ·cases h
theorem AmF{α:Type}{one:List AV→Option (α×List Nat×List AV)}{R:List Nat→α→List Value→Prop}
  (hR:∀ fr fr' x cs,(∀ i∈fr,i∈fr')→R fr x cs→R fr' x cs)
  (h1:∀ cs x fr rest us,one cs=some (x,fr,rest)→Ae w F m H cs us→∃ us1 us2,us=us1++us2∧R fr x us1∧Ae w F m H rest us2) :
  ∀ (n:Nat) {cs:List AV} {xs:List α} {fr:List Nat} {rest:List AV} {us:List Value},Ss one n cs=some (xs,fr,rest)→Ae w F m H cs us →
   ∃ us1 us2,us=us1++us2∧xs.length=n∧rows (R fr) xs us1∧Ae w F m H rest us2:=by
 intro n
 induction n with
 |zero=>
  intro cs xs fr rest us h hr
  simp only[Ss,Aoh,ApC]at h
  obtain⟨rfl,rfl,rfl⟩:=h
  exact⟨[],us,rfl,rfl,rfl,hr⟩
 |succ n ih=>
  intro cs xs fr rest us h hr
  simp only[Ss]at h
  split at h
  ·cases h
  ·rename_i x f cs1 ho
   split at h
   ·cases h
   ·rename_i ys g cs2 hi
    simp only[Aoh,ApC]at h
    obtain⟨rfl,rfl,rfl⟩:=h
    obtain⟨u1,u2,rfl,r1,r2⟩:=h1 _ _ _ _ _ ho hr
    obtain⟨u3,u4,rfl,hl,r3,r4⟩:=ih hi r2
    exact⟨u1++u3,u4,by simp,by simp[hl],⟨u1,u3,rfl,hR _ _ _ _ (fun i hi=>by simp[hi]) r1,BM (fun x _ cs hx=>hR _ _ _ _ (fun i hi=>by simp[hi]) hx) r3⟩,r4⟩
theorem AFI(hi:HI w F m H fz):∀ (t:Ty) {cs:List AV} {x:t.den} {fr:List Nat} {rest:List AV} {us:List Value},Ao H t cs=some (x,fr,rest)→Ae w F m H cs us →
  ∃ us1 us2,us=us1++us2∧Dat w (DB F m H fr) t x us1∧Ae w F m H rest us2:=by
 have cell:∀ (t:Ty),t.isAgg=false→∀ {c:AV} {cs:List AV} {x:t.den} {fr:List Nat} {rest:List AV} {us:List Value} {p:Option (t.den×List Nat)},Dq H t c=p →
   p=some (x,fr)→cs=rest→Ae w F m H (c::cs) us →
   ∃ us1 us2,us=us1++us2∧Dat w (DB F m H fr) t x us1∧Ae w F m H rest us2:=by
  rintro t ht c cs x fr rest us p hy rfl rfl hr
  unfold Ae at hr
  obtain⟨v,vs',rfl,h1,h2⟩:=hr
  exact⟨[v],vs',rfl,AKo hi hy ht h1,h2⟩
 intro t
 induction t with
 |unit=>
  intro cs x fr rest us h hr
  simp only[Ao,Aoh,ApC]at h
  obtain⟨_,rfl,rfl⟩:=h
  exact⟨[],us,rfl,rfl,hr⟩
 |bool=>
  intro cs x fr rest us h hr
  cases cs with
  |nil=>simp[Ao]at h
  |cons c cs=>
   unfold Ao at h
   split at h
   ·cases h
   ·rename_i y f hy
    simp only[Aoh,ApC]at h
    obtain⟨h1,h2,h3⟩:=h
    exact cell .bool rfl hy (by rw[h1,h2]) h3 hr
 |int k=>
  intro cs x fr rest us h hr
  cases cs with
  |nil=>simp[Ao]at h
  |cons c cs=>
   unfold Ao at h
   split at h
   ·cases h
   ·rename_i y f hy
    simp only[Aoh,ApC]at h
    obtain⟨h1,h2,h3⟩:=h
    exact cell (.int k) rfl hy (by rw[h1,h2]) h3 hr
 |slice e _=>
  intro cs x fr rest us h hr
  cases cs with
  |nil=>simp[Ao]at h
  |cons c cs=>
   unfold Ao at h
   split at h
   ·cases h
   ·rename_i y f hy
    simp only[Aoh,ApC]at h
    obtain⟨h1,h2,h3⟩:=h
    exact cell (.slice e) rfl hy (by rw[h1,h2]) h3 hr
 |nul e=>
  intro cs x fr rest us h hr
  cases cs with
  |nil=>simp[Ao]at h
  |cons c cs=>
   unfold Ao at h
   split at h
   ·cases h
   ·rename_i y f hy
    simp only[Aoh,ApC]at h
    obtain⟨_,h2,h3⟩:=h
    exact cell (.nul e) rfl hy (by rw[h2]) h3 hr
 |mapi j e _=>
  intro cs x fr rest us h hr
  cases cs with
  |nil=>simp[Ao]at h
  |cons c cs=>
   unfold Ao at h
   split at h
   ·cases h
   ·rename_i y f hy
    simp only[Aoh,ApC]at h
    obtain⟨h1,h2,h3⟩:=h
    exact cell (.mapi j e) rfl hy (by rw[h1,h2]) h3 hr
 |prod a b iha ihb=>
  intro cs x fr rest us h hr
  simp only[Ao]at h
  split at h
  ·cases h
  ·rename_i y f cs1 hy
   split at h
   ·cases h
   ·rename_i z g cs2 hz
    simp only[Aoh,ApC]at h
    obtain⟨rfl,rfl,rfl⟩:=h
    obtain⟨u1,u2,rfl,r1,r2⟩:=iha hy hr
    obtain⟨u3,u4,rfl,r3,r4⟩:=ihb hz r2
    exact⟨u1++u3,u4,by simp,⟨u1,u3,rfl,r1.Ajm (fun i hi=>by simp[hi]),r3.Ajm (fun i hi=>by simp[hi])⟩,r4⟩
 |arr n e ih=>
  intro cs x fr rest us h hr
  simp only[Ao]at h
  obtain⟨u1,u2,e1,e2,e3,e4⟩:=AmF (R:=fun fr=>Dat w (DB F m H fr) e) (fun fr fr' x cs h1 h2=>h2.Ajm h1) (fun cs x fr rest us h1 h2=>ih h1 h2) n h hr
  exact⟨u1,u2,e1,⟨e2,e3⟩,e4⟩
theorem DG(hi:HI w F m H fz){t:Ty}{v:AV}{x:t.den}{fr:List Nat}(h:Eo H t v=some (x,fr)){u:Value}(hr:Rep w F m H v u):Bg w (DB F m H fr) t x u:=by
 unfold Eo at h
 split at h
 ·rename_i ht
  unfold Bg
  rw[Aoq ht]
  unfold asAgg at h
  split at h
  ·rename_i t' d
   simp only[Aoy,ApC]at h
   obtain⟨y,h1,rfl,rfl⟩:=h
   obtain⟨e,h2⟩:=Cr h1
   subst e;simp only at h2;subst h2
   unfold Rep Bg at hr
   rw[Aoq ht]at hr
   obtain⟨vs,e1,e2⟩:=hr
   exact⟨vs,e1,e2.frz⟩
  ·rename_i cs
   split at h
   ·rename_i y f hy
    simp only[Aoh,ApC]at h
    obtain⟨rfl,rfl⟩:=h
    unfold Rep at hr
    obtain⟨vs,rfl,hr,_⟩:=hr
    obtain⟨u1,u2,e1,e2,e3⟩:=AFI hi t hy hr
    unfold Ae at e3;subst e3
    rw[Apw]at e1
    exact⟨vs,rfl,by rw[e1];exact e2⟩
   ·cases h
  ·cases h
 ·rename_i ht
  unfold Bg
  rw[Aor (by simp[ht])]
  exact AKo hi h ht hr
theorem AkR(hi:HI w F m H fz){t:Ty}{v:AV}{x:t.den}{fr:List Nat}(h:Zm H t v=some (x,fr)){u:Value}(hr:Rep w F m H v u):Bg w (DB F m H fr) t x u:=by
 unfold Zm at h
 split at h
 ·split at h
  ·rename_i id T e t' xs ver ho
   simp only[Aoy,ApC]at h
   obtain⟨y,h1,rfl,rfl⟩:=h
   obtain⟨e',h2⟩:=Cr h1
   subst e';simp only at h2;subst h2
   unfold Rep at hr
   rw[ho]at hr
   exact AUA hi ho hr
  ·exact DG hi h hr
 ·exact DG hi h hr
theorem ATy{n:Nat}(e:Ty)(d:List e.den)(h:d.length=n):BS (.arr n e) d=d.flatMap (BS e):=by
 have gen:∀ (xs:List e.den) (f:Nat→e.den),(∀ i,i<xs.length→f i=xs.getD i e.zero)→((List.range xs.length).flatMap fun i=>BS e (f i))=xs.flatMap (BS e):=by
  intro xs
  induction xs with
  |nil=>intro f _;rfl
  |cons x xs ih=>
   intro f hf
   rw[Aot,List.range_succ_eq_map,AqK,AqK,List.flatMap_map]
   have h0:=hf 0 (by simp)
   simp only[List.getD_cons_zero]at h0
   rw[h0]
   congr 1
   exact ih (fun i=>f (i+1)) fun i hi=>by
    have:=hf (i+1) (by simp;exact hi)
    simpa using this
 subst h
 exact gen d (fun i=>Ac d i e.zero) fun i _=>rfl
theorem IX:∀ (t:Ty) {d:t.den} {cs:List Value},Dat w F t d cs→Ae w F m H (BS t d) cs:=by
 have one:∀ (t:Ty) (d:t.den) (u:Value),t.isAgg=false→Dat w F t d [u]→Ae w F m H [.data t d] [u]:=by
  intro t d u ht h
  unfold Ae
  refine⟨u,[],rfl,?_,?_⟩
  ·unfold Rep Bg;rw[ht];simpa using h
  ·unfold Ae;rfl
 intro t
 induction t with
 |unit=>rintro d cs rfl;simp only[BS];unfold Ae;rfl
 |bool=>rintro d cs h;obtain rfl:=h;exact one .bool d _ rfl rfl
 |int k=>rintro d cs h;obtain rfl:=h;exact one (.int k) d _ rfl rfl
 |slice e _=>rintro d cs h;obtain⟨a,cap,rfl,h1,h2⟩:=h;exact one (.slice e) d _ rfl ⟨a,cap,rfl,h1,h2⟩
 |nul e=>rintro d cs h;obtain rfl:=h;simp only[BS];unfold Ae;exact⟨_,[],rfl,by unfold Rep;rfl,by unfold Ae;rfl⟩
 |mapi j e _=>rintro d cs h;have h':=h;obtain⟨b,ms,clock,rfl,_⟩:=h';exact one (.mapi j e) d _ rfl h
 |prod a b iha ihb=>
  rintro d cs ⟨c1,c2,rfl,h1,h2⟩
  exact G3 (iha h1) (ihb h2)
 |arr n e ih=>
  rintro d cs ⟨hlen,h⟩
  rw[ATy e d hlen]
  have key:∀ (xs:List e.den) (cs:List Value),rows (Dat w F e) xs cs→Ae w F m H (xs.flatMap (BS e)) cs:=by
   intro xs
   induction xs with
   |nil=>rintro cs rfl;simp only[List.flatMap_nil];unfold Ae;rfl
   |cons x xs ih'=>
    rintro cs ⟨c1,c2,rfl,h1,h2⟩
    rw[AqK]
    exact G3 (ih h1) (ih' _ h2)
  exact key d cs h
theorem Th{v:AV}{u:Value}(hr:Rep w F m H v u):Ae w F m H [v] [u]:=by
 unfold Ae
 exact⟨u,[],rfl,hr,by unfold Ae;rfl⟩
theorem OK:Ae w F m H [] []:=by unfold Ae;rfl
theorem Fc{u:Value}(h:u.oneCell'=true):u.cells.toList=[u]:=by
 cases u<;>first|rfl|(simp[Value.oneCell']at h)
def AbL:AV→Prop
 |.junk=>False
 |.tup _=>False
 |.agg _=>False
 |.data t _=>t.isAgg=false
 |_=>True
theorem AEV{v:AV}{u:Value}(hr:Rep w F m H v u)(hv:AbL v):u.oneCell'=true:=by
 cases v with
 |junk=>exact hv.elim
 |tup vs=>exact hv.elim
 |agg cs=>exact hv.elim
 |data t d=>
  unfold AbL at hv
  unfold Rep Bg at hr
  rw[hv]at hr
  exact Dat.HU t (by simpa using hr) u (by simp)
 |nils e=>unfold Rep at hr;subst hr;rfl
 |clip t xs=>unfold Rep at hr;obtain⟨_,a,rfl⟩:=hr;rfl
 |own id=>
  unfold Rep at hr
  cases ho:H[id]? with
  |none=>rw[ho]at hr;exact hr.elim
  |some o=>rw[ho]at hr;exact hr.one
 |win id off n=>
  unfold Rep at hr
  cases ho:H[id]? with
  |none=>rw[ho]at hr;exact hr.elim
  |some o=>rw[ho]at hr;exact hr.one
 |ptr id off=>
  unfold Rep at hr
  cases ho:H[id]? with
  |none=>rw[ho]at hr;exact hr.elim
  |some o=>rw[ho]at hr;exact hr.one
 |eptr id i sub=>
  unfold Rep at hr
  cases ho:H[id]? with
  |none=>rw[ho]at hr;exact hr.elim
  |some o=>rw[ho]at hr;exact hr.one
 |dptr cs=>unfold Rep at hr;obtain⟨ad,us,rfl,_⟩:=hr;rfl
 |clo f cs=>unfold Rep at hr;obtain⟨us,rfl,_⟩:=hr;rfl
 |bnd f cs=>unfold Rep at hr;obtain⟨us,rfl,_⟩:=hr;rfl
 |str xs=>unfold Rep at hr;obtain⟨us,rfl,_⟩:=hr;rfl
 |mp id=>
  unfold Rep at hr
  cases ho:H[id]? with
  |none=>rw[ho]at hr;exact hr.elim
  |some o=>rw[ho]at hr;exact hr.one
 |rowp id i ver=>
  unfold Rep at hr
  cases ho:H[id]? with
  |none=>rw[ho]at hr;exact hr.elim
  |some o=>rw[ho]at hr;exact hr.one
 |glob g=>unfold Rep at hr;subst hr;rfl
 |nilp=>unfold Rep at hr;subst hr;rfl
 |aptr id n=>
  unfold Rep at hr
  cases ho:H[id]? with
  |none=>rw[ho]at hr;exact hr.elim
  |some o=>rw[ho]at hr;exact hr.one
theorem cells?_ok{v:AV}{cs:List AV}(h:cells? v=some cs){u:Value}(hr:Rep w F m H v u):Ae w F m H cs u.cells.toList:=by
 have agg:∀ (t:Ty) (d:t.den),t.isAgg=true→Rep w F m H (.data t d) u→Ae w F m H (BS t d) u.cells.toList:=by
  intro t d ht hr
  unfold Rep Bg at hr
  rw[Aoq ht]at hr
  obtain⟨vs,rfl,hd⟩:=hr
  exact IX t hd
 have one:AbL v→cs=[v]→Ae w F m H cs u.cells.toList:=by
  rintro hv rfl
  rw[Fc (AEV hr hv)]
  exact Th hr
 cases v with
 |junk=>simp[cells?]at h
 |tup vs=>simp[cells?]at h
 |agg cs'=>
  simp only[cells?,Aoh]at h;subst h
  unfold Rep at hr
  obtain⟨vs,rfl,hr',_⟩:=hr
  exact hr'
 |data t d=>
  cases t with
  |unit=>
   simp only[cells?,Aoh]at h;subst h
   exact agg .unit d rfl hr
  |prod a b=>simp only[cells?,Aoh]at h;subst h;exact agg _ d rfl hr
  |arr n e=>simp only[cells?,Aoh]at h;subst h;exact agg _ d rfl hr
  |bool=>exact one rfl (by simpa [cells?]using h.symm)
  |int k=>exact one rfl (by simpa [cells?]using h.symm)
  |slice e=>exact one rfl (by simpa [cells?]using h.symm)
  |nul e=>exact one rfl (by simpa [cells?]using h.symm)
  |mapi j e=>exact one rfl (by simpa [cells?]using h.symm)
 |nils e=>exact one trivial (by simpa [cells?]using h.symm)
 |clip t xs=>exact one trivial (by simpa [cells?]using h.symm)
 |own id=>exact one trivial (by simpa [cells?]using h.symm)
 |win id off n=>exact one trivial (by simpa [cells?]using h.symm)
 |ptr id off=>exact one trivial (by simpa [cells?]using h.symm)
 |eptr id i sub=>exact one trivial (by simpa [cells?]using h.symm)
 |dptr cs'=>exact one trivial (by simpa [cells?]using h.symm)
 |clo f cs'=>exact one trivial (by simpa [cells?]using h.symm)
 |bnd f cs'=>exact one trivial (by simpa [cells?]using h.symm)
 |str xs=>exact one trivial (by simpa [cells?]using h.symm)
 |mp id=>exact one trivial (by simpa [cells?]using h.symm)
 |rowp id i ver=>exact one trivial (by simpa [cells?]using h.symm)
 |glob g=>exact one trivial (by simpa [cells?]using h.symm)
 |nilp=>exact one trivial (by simpa [cells?]using h.symm)
 |aptr id n=>exact one trivial (by simpa [cells?]using h.symm)
theorem cells?_one{v:AV}{cs:List AV}(h:cells? v=some cs){u:Value}(hr:Rep w F m H v u):∀ x∈u.cells.toList,x.oneCell'=true:=by
 have one:AbL v→∀ x∈u.cells.toList,x.oneCell'=true:=by
  intro hv x hx
  have h1:=AEV hr hv
  rw[Fc h1]at hx
  simp at hx;subst hx;exact h1
 have agg:∀ (t:Ty) (d:t.den),t.isAgg=true→Rep w F m H (.data t d) u→∀ x∈u.cells.toList,x.oneCell'=true:=by
  intro t d ht hr
  unfold Rep Bg at hr
  rw[Aoq ht]at hr
  obtain⟨vs,rfl,hd⟩:=hr
  exact Dat.HU t hd
 cases v with
 |junk=>simp[cells?]at h
 |tup vs=>simp[cells?]at h
 |agg cs'=>
  unfold Rep at hr
  obtain⟨vs,rfl,_,h1⟩:=hr
  exact h1
 |data t d=>
  cases t with
  |unit=>exact agg .unit d rfl hr
  |prod a b=>exact agg _ d rfl hr
  |arr n e=>exact agg _ d rfl hr
  |bool=>exact one rfl
  |int k=>exact one rfl
  |slice e=>exact one rfl
  |nul e=>exact one rfl
  |mapi j e=>exact one rfl
 |nils e=>exact one trivial
 |clip t xs=>exact one trivial
 |own id=>exact one trivial
 |win id off n=>exact one trivial
 |ptr id off=>exact one trivial
 |eptr id i sub=>exact one trivial
 |dptr cs'=>exact one trivial
 |clo f cs'=>exact one trivial
 |bnd f cs'=>exact one trivial
 |str xs=>exact one trivial
 |mp id=>exact one trivial
 |rowp id i ver=>exact one trivial
 |glob g=>exact one trivial
 |nilp=>exact one trivial
 |aptr id n=>exact one trivial
theorem QB:∀ (cs:List AV) (vs:List Value),Br cs vs=true→∀ x∈vs,x.oneCell'=true:=by
 intro cs
 induction cs with
 |nil=>
  intro vs h x hx
  cases vs with
  |nil=>cases hx
  |cons v vs=>simp[Br]at h
 |cons c cs ih=>
  intro vs h x hx
  cases vs with
  |nil=>cases hx
  |cons v vs=>
   simp only[Br,Aol]at h
   rcases Aoo.1 hx with rfl|hx
   ·have h:=h.1
    unfold Cu at h
    split at h<;>first|rfl|cases h
   ·exact ih vs h.2 x hx
theorem Jp{cs new out:List AV}{off:Nat}(h:De cs new off=some out){us vs:List Value}(h1:Ae w F m H cs us)(h2:Ae w F m H new vs):
  off+new.length≤cs.length∧Ae w F m H out (us.take off++vs++us.drop (off+new.length)):=by
 unfold De at h
 split at h
 ·rename_i hle
  simp only[Aoh]at h;subst h
  exact⟨hle,G3 (G3 (PO h1 off) h2) (E9 h1 _)⟩
 ·cases h
theorem AZd(v:Value):Rep w F m H (AOe v) v:=by
 unfold AOe
 split
 ·unfold Rep Bg;exact rfl
 ·unfold Rep Bg;exact rfl
 ·unfold Rep;rfl
 ·unfold Rep;rfl
 ·unfold Rep;exact⟨_,rfl,rfl⟩
 ·unfold Rep;trivial
theorem AFY{tmps:List AV}{a:Act}(h:∀ t,Rep w F m H (tmps.getD t .junk) (a.tmps.getD t undef))(x:Operand):Rep w F m H (BW tmps x) (a.eval x):=by
 cases x with
 |tmp t=>exact h t
 |const v=>exact AZd v
 |func f=>unfold BW Rep;exact⟨#[],rfl,OK⟩
 |global g=>unfold BW Rep;rfl
theorem K6:∀ (cs:List AV) (vs:List Value),Br cs vs=true→Ae w F m H cs vs:=by
 intro cs
 induction cs with
 |nil=>intro vs h;cases vs with
  |nil=>exact OK
  |cons v vs=>simp[Br]at h
 |cons c cs ih=>
  intro vs h
  cases vs with
  |nil=>simp[Br]at h
  |cons v vs=>
   simp only[Br,Aol]at h
   unfold Ae
   refine⟨v,vs,rfl,?_,ih vs h.2⟩
   have h:=h.1
   unfold Cu at h
   split at h
   ·simp only[AqL]at h;subst h;unfold Rep Bg;exact rfl
   ·simp only[Aol,Aok,AqL]at h
    obtain⟨rfl,rfl⟩:=h
    unfold Rep Bg;exact rfl
   ·unfold Rep;rfl
   ·cases h
end
end Go.Pev
end
section
namespace Go.Pev
open Go.RowKit
section
variable {P:Program} {w:World}
theorem run_typeInfo{T:TypeId}{i:TypeInfo}(h:P.info? T=some i):(typeInfo T).run P w = .ok i w:=by simp[typeInfo,h]
theorem run_sizeOf{T:TypeId}{i:TypeInfo}(h:P.info? T=some i):(sizeOf T).run P w = .ok i.size w:=by simp[sizeOf,run_typeInfo h]
theorem BE{T:TypeId}{n:Nat}(h:BJ P T=some n):∃ i,P.info? T=some i∧i.size=n:=by
 unfold BJ at h
 simpa [Aoy]using h
theorem CP{T:TypeId}{b:Bool}(h:EI P T=some b):(isAgg T).run P w = .ok b w:=by
 unfold EI at h
 split at h
 ·rename_i hu;simp only[Aoh]at h;subst h;simp[isAgg,run_underlying hu]
 ·rename_i hu;simp only[Aoh]at h;subst h;simp[isAgg,run_underlying hu]
 ·rename_i d h1 h2 hu
  simp only[Aoh]at h;subst h
  simp only[isAgg,Sem.run_bind,run_underlying hu,Result.andThen_ok]
  rfl
 ·cases h
theorem Ck{F:Nat→Prop}{m:Mp}{H:List Ob}{T:TypeId}{n:Nat}{ag:Bool}(hs:BJ P T=some n)(ha:EI P T=some ag){cs:List AV}{us:List Value}{v:AV}{ad:Addr}
  (hl:loadCells ag n cs=some v) (hr:Ae w F m H cs us) (h1:∀ u∈us,u.oneCell'=true) (hc:∀ j u,us[j]? = some u→w.cell? (ad.add j)=some u) :
  ∃ u,(loadVar T ad).run P w = .ok u w∧Rep w F m H v u:=by
 obtain⟨i,hi,rfl⟩:=BE hs
 unfold loadCells at hl
 cases ag with
 |true=>
  simp only at hl
  split at hl
  ·rename_i hle
   simp only[Aoh]at hl;subst hl
   have hlen:=As hr
   have hl2:(us.take i.size).length=i.size:=by rw[Ao8];omega
   refine⟨.agg (us.take i.size).toArray,?_,?_⟩
   ·have:=run_loadCells_list (P:=P) w ad (us.take i.size) (fun j u hu=>by
     rw[ApU]at hu
     split at hu
     ·exact hc j u hu
     ·cases hu)
    rw[hl2]at this
    simp[loadVar,CP ha,run_sizeOf hi,this]
   ·unfold Rep
    exact⟨_,rfl,by simpa using PO hr i.size,fun u hu=>h1 u (by simpa using Aq4 (by simpa using hu))⟩
  ·cases hl
 |false=>
  simp only at hl
  cases cs with
  |nil=>simp at hl
  |cons c cs=>
   simp only[List.head?_cons,Aoh]at hl;subst hl
   unfold Ae at hr
   obtain⟨u,us',rfl,h3,_⟩:=hr
   refine⟨u,?_,h3⟩
   have:=hc 0 u rfl
   have h0:ad.add 0=ad:=by simp[Addr.add]
   rw[h0]at this
   simp[loadVar,CP ha,this]
theorem DJ{T T':TypeId}{n:Nat}(hs:BJ P T=some n){b off:Nat}{cur:Array Value}(hb:w.heap[b]? = some (.cells cur T' (0,0))){u:Value}(hu:u.cells.size=n)
  (h1:∀ x∈u.cells.toList,x.oneCell'=true) (hfit:off+n≤cur.size) :
  (storeVar T ⟨b,off,none⟩ u).run P w = .ok () (w.setRow b (cur.toList.take off++u.cells.toList++cur.toList.drop (off+n)).toArray):=by
 obtain⟨i,hi,rfl⟩:=BE hs
 have:=run_storeCells_at P b off T' u.cells.toList 0 cur w hb (by simp[hu];omega) h1
 simp only[Ap5,Aoz]at this
 rw[hu]at this
 simp[storeVar,run_sizeOf hi,hu,this]
theorem Bl{T:TypeId}{t:Ty}{cs:List AV}(h:zeroAt P T=some (t,cs)):ALI P T=some t∧cs=zeroCells t∧∃ i z,P.info? T=some i∧i.zero=some z∧Br cs z.cells.toList=true∧i.size=t.size∧t.isAgg=XL z:=by
 unfold zeroAt at h
 split at h
 ·rename_i t' i ht hi
  split at h
  ·rename_i z hz
   split at h
   ·rename_i hok
    simp only[Aoh,ApC]at h
    obtain⟨rfl,rfl⟩:=h
    simp only[Aol,AqL]at hok
    exact⟨ht,rfl,i,z,hi,hz,hok.1.1,hok.1.2,hok.2⟩
   ·cases h
  ·cases h
 ·cases h
theorem BZ{T:TypeId}{i:TypeInfo}{z:Value}(h:P.info? T=some i)(hz:i.zero=some z):(zeroValue T).run P w = .ok z w:=by simp[zeroValue,run_typeInfo h,hz]
theorem Bb{F:Nat→Prop}:∀ (t:Ty) (vs:List Value),Br (zeroCells t) vs=true→Dat w F t t.zero vs:=by
 have app:∀ (asz bs:List AV) (vs:List Value),Br (asz++bs) vs=true→∃ v1 v2,vs=v1++v2∧Br asz v1=true∧Br bs v2=true:=by
  intro asz
  induction asz with
  |nil=>intro bs vs h;exact⟨[],vs,rfl,rfl,h⟩
  |cons a asz ih=>
   intro bs vs h
   cases vs with
   |nil=>simp[Br]at h
   |cons v vs=>
    simp only[ApE,Br,Aol]at h
    obtain⟨v1,v2,rfl,h1,h2⟩:=ih bs vs h.2
    exact⟨v::v1,v2,rfl,by simp[Br,h.1,h1],h2⟩
 have one:∀ (a:AV) (vs:List Value),Br [a] vs=true→∃ v,vs=[v]∧Cu a v=true:=by
  intro a vs h
  cases vs with
  |nil=>simp[Br]at h
  |cons v vs=>
   simp only[Br,Aol]at h
   cases vs with
   |nil=>exact⟨v,rfl,h.1⟩
   |cons x xs=>simp[Br]at h
 intro t
 induction t with
 |unit=>intro vs h;cases vs with
  |nil=>exact rfl
  |cons v vs=>simp[Br,zeroCells]at h
 |bool=>
  intro vs h
  obtain⟨v,hv,h'⟩:=one (.data .bool false) _ h
  subst hv;clear h;have h:=h'
  unfold Cu at h
  split at h
  ·rename_i h1;simp only[AV.data.injEq]at h1;simp only[AqL]at h;subst h
   obtain⟨_,h1⟩:=h1
   exact AqD (fun b=>[Value.bool b]) (eq_of_heq h1).symm
  ·rename_i h1;simp at h1
  ·rename_i h1;simp at h1
  ·cases h
 |int k=>
  intro vs h
  obtain⟨v,hv,h'⟩:=one (.data (.int k) (0:Int)) _ h
  subst hv;clear h;have h:=h'
  unfold Cu at h
  split at h
  ·rename_i h1;simp at h1
  ·rename_i h1
   simp only[AV.data.injEq,Ty.int.injEq]at h1
   simp only[Aol,Aok,AqL]at h
   obtain⟨rfl,h1⟩:=h1
   obtain⟨rfl,rfl⟩:=h
   exact AqD (fun n=>[Value.int k n]) (eq_of_heq h1).symm
  ·rename_i h1;simp at h1
  ·cases h
 |slice e _=>
  intro vs h
  obtain⟨v,hv,h'⟩:=one (.nils e) _ h
  subst hv;clear h;have h:=h'
  unfold Cu at h
  split at h
  ·rename_i h1;simp at h1
  ·rename_i h1;simp at h1
  ·exact⟨none,0,rfl,Aop _,fun h=>absurd rfl h⟩
  ·cases h
 |nul e=>
  intro vs h
  obtain⟨v,hv,h'⟩:=one (.nils e) _ h
  subst hv;clear h;have h:=h'
  unfold Cu at h
  split at h
  ·rename_i h1;simp at h1
  ·rename_i h1;simp at h1
  ·rfl
  ·cases h
 |mapi j e _=>
  intro vs h
  obtain⟨v,hv,h'⟩:=one .junk _ h
  simp[Cu]at h'
 |prod a b iha ihb=>
  intro vs h
  obtain⟨v1,v2,rfl,h1,h2⟩:=app _ _ _ h
  exact⟨v1,v2,rfl,iha _ h1,ihb _ h2⟩
 |arr n e ih=>
  intro vs h
  refine⟨by simp[Ty.zero],?_⟩
  simp only[zeroCells]at h
  have key:∀ (n:Nat) (vs:List Value),Br (List.replicate n (zeroCells e)).flatten vs=true→rows (Dat w F e) (List.replicate n e.zero) vs:=by
   intro n
   induction n with
   |zero=>intro vs h;cases vs with
    |nil=>exact rfl
    |cons v vs=>simp[Br]at h
   |succ n ihn=>
    intro vs h
    rw[List.replicate_succ,Aqo]at h
    obtain⟨v1,v2,rfl,h1,h2⟩:=app _ _ _ h
    exact⟨v1,v2,rfl,ih _ h1,ihn _ h2⟩
  exact key n vs h
theorem Oa{F:Nat→Prop}{t:Ty}{z:Value}(h:Br (zeroCells t) z.cells.toList=true)(ha:t.isAgg=XL z):Bg w F t t.zero z:=by
 have hd:=Bb (w:=w) (F:=F) t _ h
 unfold Bg
 split
 ·rename_i hg
  rw[hg]at ha
  cases z<;>simp[XL]at ha
  exact⟨_,rfl,hd⟩
 ·rename_i hg
  have hz:z.cells.toList=[z]:=by
   cases z<;>simp_all [XL,Value.cells]
  rw[hz]at hd;exact hd
end
end Go.Pev
end
section
namespace Go.Pev
open Go.RowKit
def UW(P:Program)(g:FuncId):Prop:=∀ args w,(callFunc g args).run P w = .ok (.enter g args) w
def AN(P:Program)(g:FuncId)(s:Spec):Prop:=
 ∀ R args H fz slot k r,s R args H fz slot k=some r→∃ v e,k v e=some r∧(∀ R' k',s R' args H fz slot k'=k' v e)∧UW P g ∧
  ∀ w F m vals,HI w F m H fz→Ae w F m H args vals→Calls P g vals.toArray w fun en w'=>∃ u,en = .returned u∧∃ F' m',Ap w F m H fz w' F' m' (CO e H) (GR e fz)∧Rep w' F' m' (CO e H) v u
def APK(P:Program)(op:Op)(ty:TypeId)(ρ:Operand→AV)(H:List Ob)(fz:List Bool)(v:AV)(e:Eff):Prop:=
 ∀ (w:World) (F:Nat→Prop) (m:Mp) (a:Act) (o:Oper) (next:Act→World→Prop) (Q:Exit→Act→World→Prop),o.op=op→o.type=ty→HI w F m H fz→(∀ x,Rep w F m H (ρ x) (a.eval x)) →
  (∀ u w' F' m',Ap w F m H fz w' F' m' (CO e H) (GR e fz)→Rep w' F' m' (CO e H) v u→next (a.put o.dst u) w')→o.wp P a w next Q
section
variable {P:Program} {op:Op} {ty:TypeId} {ρ:Operand→AV} {H:List Ob} {fz:List Bool} {v:AV} {e:Eff}
theorem A4(h:∀ (w:World) (F:Nat→Prop) (m:Mp) (ρc:Operand→Value) (o:Oper),o.op=op→o.type=ty→HI w F m H fz→(∀ x,Rep w F m H (ρ x) (ρc x)) →
  ∃ u w' F' m',(execOp ρc o).run P w = .ok (.value u) w'∧Ap w F m H fz w' F' m' (CO e H) (GR e fz)∧Rep w' F' m' (CO e H) v u):APK P op ty ρ H fz v e:=by
 intro w F m a o next Q ho ht hi hr hn
 obtain⟨u,w',F',m',h1,h2,h3⟩:=h w F m a.eval o ho ht hi hr
 unfold Oper.wp
 rw[h1]
 exact hn u w' F' m' h2 h3
theorem D4(h:∀ (w:World) (F:Nat→Prop) (m:Mp) (ρc:Operand→Value) (o:Oper),o.op=op→o.type=ty→HI w F m H fz→(∀ x,Rep w F m H (ρ x) (ρc x)) →
  ∃ w' F' m',(execOp ρc o).run P w = .ok .skip w'∧Ap w F m H fz w' F' m' (CO e H) (GR e fz)):APK P op ty ρ H fz .junk e:=by
 intro w F m a o next Q ho ht hi hr hn
 obtain⟨w',F',m',h1,h2⟩:=h w F m a.eval o ho ht hi hr
 unfold Oper.wp
 rw[h1]
 exact hn undef w' F' m' h2 (by unfold Rep;trivial)
theorem AX(h:∀ (w:World) (F:Nat→Prop) (m:Mp) (ρc:Operand→Value) (o:Oper),o.op=op→o.type=ty→HI w F m H fz→(∀ x,Rep w F m H (ρ x) (ρc x)) →
  ∃ u,(execOp ρc o).run P w = .ok (.value u) w∧Rep w F m H v u):APK P op ty ρ H fz v {}:=
 A4 fun w F m ρc o ho ht hi hr=>let ⟨u,h1,h2⟩:=h w F m ρc o ho ht hi hr;⟨u,w,F,m,h1,Ap.refl hi,h2⟩
end
def Claim(P:Program)(E:Env)(o:Op):Prop:=
 ∀ (R:Type) (ty:TypeId) (ρ:Operand→AV) (H:List Ob) (fz:List Bool) (slot:Nat) (k:AV→Eff→Option R) (r:R),evalOp P E R o ty ρ H fz slot k=some r →
  ∃ v e,k v e=some r∧(∀ R' (k':AV→Eff→Option R'),evalOp P E R' o ty ρ H fz slot k'=k' v e)∧APK P o ty ρ H fz v e
section
variable {P:Program} {E:Env}
theorem AZo(x:Operand):Claim P E (.move x):=by
 intro R ty ρ H fz slot k r h
 simp only[evalOp]at h
 split at h
 ·rename_i hx
  refine⟨_,_,h,fun R' k'=>by simp[evalOp,hx],AX fun w F m ρc o ho ht hi hr=>⟨ρc x,by simp[execOp,ho],?_⟩⟩
  have:=hr x
  rw[hx]at this
  unfold Rep at this
  unfold Aiq
  split<;>(unfold Rep;exact this)
 ·rename_i hx
  refine⟨_,_,h,fun R' k' => ?_,AX fun w F m ρc o ho ht hi hr=>⟨ρc x,by simp[execOp,ho],hr x⟩⟩
  simp only[evalOp]
theorem AOs(x:Operand):Claim P E (.assign x):=by
 intro R ty ρ H fz slot k r h
 simp only[evalOp]at h
 split at h
 ·rename_i hx
  refine⟨_,_,h,fun R' k'=>by simp[evalOp,hx],AX fun w F m ρc o ho ht hi hr=>⟨ρc x,by simp[execOp,ho],?_⟩⟩
  have:=hr x
  rw[hx]at this
  unfold Rep at this
  unfold Aiq
  split<;>(unfold Rep;exact this)
 ·rename_i hx
  refine⟨_,_,h,fun R' k' => ?_,AX fun w F m ρc o ho ht hi hr=>⟨ρc x,by simp[execOp,ho],hr x⟩⟩
  simp only[evalOp]
theorem Cl{w:World}{F:Nat→Prop}{m:Mp}{H:List Ob}{b:Bool}{v:Value}(h:Rep w F m H (.data .bool b) v):v = .bool b:=by
 unfold Rep Bg at h
 have h:Dat w F .bool b [v]:=h
 simpa [Dat]using h
theorem BA{w:World}{F:Nat→Prop}{m:Mp}{H:List Ob}{k:IntKind}{n:Int}{v:Value}(h:Rep w F m H (.data (.int k) n) v):v = .int k n:=by
 unfold Rep Bg at h
 have h:Dat w F (.int k) n [v]:=h
 simpa [Dat]using h
theorem BX{w:World}{F:Nat→Prop}{m:Mp}{H:List Ob}(b:Bool):Rep w F m H (.data .bool b) (.bool b):=by
 unfold Rep Bg;exact rfl
theorem A0{w:World}{F:Nat→Prop}{m:Mp}{H:List Ob}(k:IntKind)(n:Int):Rep w F m H (.data (.int k) n) (.int k n):=by
 unfold Rep Bg;exact rfl
theorem AZn(c a b:Operand):Claim P E (.pick c a b):=by
 intro R ty ρ H fz slot k r h
 simp only[evalOp]at h
 split at h
 ·rename_i hx
  refine⟨_,_,h,fun R' k'=>by simp[evalOp,hx],AX fun w F m ρc o ho ht hi hr=>⟨ρc a,?_,hr a⟩⟩
  have:=Cl (hx▸hr c)
  simp[execOp,ho,this,asBool]
 ·rename_i hx
  refine⟨_,_,h,fun R' k'=>by simp[evalOp,hx],AX fun w F m ρc o ho ht hi hr=>⟨ρc b,?_,hr b⟩⟩
  have:=Cl (hx▸hr c)
  simp[execOp,ho,this,asBool]
 ·cases h
theorem ATI{T:TypeId}{n:Nat}(h:AYk P T=some n):∃ i z,P.info? T=some i∧i.zero=some z∧(∀ u∈z.cells.toList,u.oneCell'=true)∧n=z.cells.size:=by
 unfold AYk at h
 split at h
 ·rename_i i hi
  split at h
  ·rename_i z hz
   split at h
   ·rename_i ha
    cases h
    exact⟨i,z,hi,hz,Ao2.1 ha,rfl⟩
   ·cases h
  ·cases h
 ·cases h
theorem AUQ(T:TypeId):Claim P E (.alloc T):=by
 intro R ty ρ H fz slot k r h
 simp only[evalOp]at h
 split at h
 ·rename_i t cs hz
  split at h
  ·rename_i hf
   obtain⟨_,rfl,i,z,hi0,hz0,hok,hsz,_⟩:=Bl hz
   split at h
   ·rename_i n e ha
    refine⟨_,_,h,fun R' k'=>by simp[evalOp,hz,hf,ha],A4 fun w F m ρc o ho ht hi hr => ?_⟩
    have⟨et,hn,hm4,he⟩:t = .arr n e∧0<n∧n≤4294967296∧0<e.size:=by
     unfold Amy at ha
     split at ha
     ·split at ha
      ·rename_i hc
       cases ha
       simp only[Aol,Aok,Nat.ble_eq]at hc
       exact⟨rfl,hc.1,hc.2.1,hc.2.2⟩
      ·cases ha
     ·cases ha
    subst et
    have hrun:(execOp ρc o).run P w = .ok (.value (.pointer (some ⟨w.heap.size,0,none⟩))) (w.alloc (.cells z.cells T)):=by
     simp[execOp,ho,Instr.alloc,BZ hi0 hz0,newVar,newRow]
    have hzd:Dat w F (.arr n e) (List.replicate n e.zero) z.cells.toList:=Bb (w:=w) (F:=F) (.arr n e) _ hok
    have hzl:=Dat.length (.arr n e) hzd
    have hg:=Ap.new (w':=w.alloc (.cells z.cells T)) hi hf (ob:=.arr T e (List.replicate n e.zero)) trivial (some (w.heap.size,n)) rfl rfl rfl (by simp) (fun b hb=>Below.heap_alloc w _ b hb)
     (fun b c h=>by cases h;exact Aop _)
     (fun hmono=>⟨he,z.cells,z.cells.toList,heap_alloc_new w _,by rw[Apv];exact Aop _,by simp only[maxLen];omega,by rw[← Aoz,hzl];rfl,
      BM (fun x _ cs hx=>hx.mono (fun b hb=>Below.heap_alloc w _ _ (hi.lt b hb)) (fun _ h=>h) e) hzd.2,Aqg⟩)
    refine⟨.pointer (some ⟨w.heap.size,0,none⟩),w.alloc (.cells z.cells T),F,_,hrun,hg,?_⟩
    unfold Rep
    have hlt:=Al (BN hf).1
    rw[show CO { objs:=[(slot,.arr T e (D6 n e.zero))] } H=H.set slot (.arr T e (List.replicate n e.zero))from rfl,Aw hlt,Aq]
    exact⟨Apv,_,rfl,rfl⟩
   rename_i ha
   refine⟨_,_,h,fun R' k'=>by simp[evalOp,hz,hf,ha],A4 fun w F m ρc o ho ht hi hr => ?_⟩
   have hrun:(execOp ρc o).run P w = .ok (.value (.pointer (some ⟨w.heap.size,0,none⟩))) (w.alloc (.cells z.cells T)):=by
    simp[execOp,ho,Instr.alloc,BZ hi0 hz0,newVar,newRow]
   have hg:=Ap.new (w':=w.alloc (.cells z.cells T)) hi hf (ob:=.box (zeroCells t)) trivial (some (w.heap.size,0)) rfl rfl rfl (by simp) (fun b hb=>Below.heap_alloc w _ b hb)
    (fun b c h=>by cases h;exact Aop _)
    (fun _=>⟨w.heap.size,0,z.cells,T,rfl,heap_alloc_new w _,K6 _ _ hok,QB _ _ hok⟩)
   refine⟨_,_,F,_,hrun,hg,?_⟩
   unfold Rep
   have hlt:=Al (BN hf).1
   rw[show CO { objs:=[(slot,.box (zeroCells t))] } H=H.set slot (.box (zeroCells t))from rfl,Aw hlt,Aq]
   exact⟨_,_,rfl,rfl⟩
  ·cases h
 ·rename_i hz
  split at h
  ·rename_i n hj
   split at h
   ·rename_i hf
    obtain⟨i,z,hi0,hz0,hone,rfl⟩:=ATI hj
    refine⟨_,_,h,fun R' k'=>by simp[evalOp,hz,hj,hf],A4 fun w F m ρc o ho ht hi hr => ?_⟩
    have hrun:(execOp ρc o).run P w = .ok (.value (.pointer (some ⟨w.heap.size,0,none⟩))) (w.alloc (.cells z.cells T)):=by
     simp[execOp,ho,Instr.alloc,BZ hi0 hz0,newVar,newRow]
    have hg:=Ap.new (w':=w.alloc (.cells z.cells T)) hi hf (ob:=.box (List.replicate z.cells.size .junk)) trivial (some (w.heap.size,0)) rfl rfl rfl (by simp) (fun b hb=>Below.heap_alloc w _ b hb)
     (fun b c h=>by cases h;exact Aop _)
     (fun _=>⟨w.heap.size,0,z.cells,T,rfl,heap_alloc_new w _,DV (by simp) (fun i c v hc _=>by
      rw[AqT (Aox hc)];unfold Rep;trivial),hone⟩)
    refine⟨_,_,F,_,hrun,hg,?_⟩
    unfold Rep
    have hlt:=Al (BN hf).1
    rw[show CO { objs:=[(slot,.box (List.replicate z.cells.size .junk))] } H=H.set slot (.box (List.replicate z.cells.size .junk))from rfl,Aw hlt,Aq]
    exact⟨_,_,rfl,rfl⟩
   ·cases h
  ·cases h
theorem Aft(T:TypeId)(x:Operand):Claim P E (.box T x):=by
 intro R ty ρ H fz slot k r h
 simp only[evalOp]at h
 split at h
 ·rename_i n hs
  split at h
  ·rename_i vs hv
   split at h
   ·rename_i hd
    split at h
    ·rename_i hf
     refine⟨_,_,h,fun R' k'=>by simp[evalOp,hs,hv,hd,hf],A4 fun w F m ρc o ho ht hi hr => ?_⟩
     have hrun:(execOp ρc o).run P w = .ok (.value (.pointer (some ⟨w.heap.size,0,none⟩))) (w.alloc (.cells (ρc x).cells T)):=by
      simp[execOp,ho,Instr.box,newVar,newRow]
     have hrx:=cells?_ok hv (hr x)
     have h1:=cells?_one hv (hr x)
     have hg:=Ap.new (w':=w.alloc (.cells (ρc x).cells T)) hi hf (ob:=.box vs) trivial (some (w.heap.size,0)) rfl rfl rfl (by simp) (fun b hb=>Below.heap_alloc w _ b hb)
      (fun b c h=>by cases h;exact Aop _)
      (fun hmono=>⟨w.heap.size,0,(ρc x).cells,T,rfl,heap_alloc_new w _,DV (As hrx) fun i c v hc hv=>by
        obtain⟨v',hv',hr'⟩:=CN hrx hc
        rw[hv]at hv';cases hv'
        exact hmono hr',h1⟩)
     refine⟨_,_,F,_,hrun,hg,?_⟩
     unfold Rep
     have hlt:=Al (BN hf).1
     rw[show CO { objs:=[(slot,.box vs)] } H=H.set slot (.box vs)from rfl,Aw hlt,Aq]
     exact⟨_,_,rfl,rfl⟩
    ·cases h
   ·cases h
  ·cases h
 ·cases h
theorem Zc(off:Nat):∀ (l:List Value) (n:Nat) (us:Array Value),off+n+l.length≤us.size →
  ((l.zipIdx n).foldl (fun cs (p:Value×Nat)=>cs.setIfInBounds (off+p.2) p.1) us).toList=us.toList.take (off+n)++l++us.toList.drop (off+n+l.length):=by
 intro l
 induction l with
 |nil=>intro n us _;simp
 |cons v l ih=>
  intro n us h
  simp only[Aot]at h
  simp only[List.zipIdx_cons,ApY]
  rw[ih (n+1) _ (by simp;omega)]
  have hlt:off+n<us.toList.length:=by simp;omega
  rw[Array.toList_setIfInBounds,List.set_eq_take_append_cons_drop,Aoq hlt]
  have ht:(us.toList.take (off+n)).length=off+n:=by rw[Ao8];omega
  have e1:(us.toList.take (off+n)++v::us.toList.drop (off+n+1)).take (off+(n+1))=us.toList.take (off+n)++[v]:=by
   rw[Aqf,Apq (by omega),ht,show off+(n+1)-(off+n)=1 from by omega];rfl
  have e2:(us.toList.take (off+n)++v::us.toList.drop (off+n+1)).drop (off+(n+1)+l.length)=us.toList.drop (off+n+(l.length+1)):=by
   rw[Arr,Apz (by omega),ht,ApI,show off+(n+1)+l.length-(off+n)=l.length+1 from by omega,List.drop_succ_cons,Aql]
   congr 1;omega
  rw[e1,e2];simp
theorem AOS{w:World}{F:Nat→Prop}{m:Mp}{H:List Ob}{ρ:Operand→AV}{ρc:Operand→Value}(hr:∀ x,Rep w F m H (ρ x) (ρc x)){pl pl':Nat→Option (Nat×Nat)}(hpl:∀ i p,pl i=some p→pl' i=some p):
  ∀ (ps:List (Nat×Operand)) {cs out:List AV} {us:Array Value},Eh pl (ps.map fun p=>(p.1,ρ p.2)) cs=some out→Ae w F m H cs us.toList→(∀ x∈us.toList,x.oneCell'=true) →
   ∃ us':Array Value,Instr.fill pl' us (ps.map fun p=>(p.1,ρc p.2))=some us'∧Ae w F m H out us'.toList∧∀ x∈us'.toList,x.oneCell'=true:=by
 intro ps
 induction ps with
 |nil=>
  intro cs out us h h1 h2
  simp only[AqU,Eh,Aoh]at h;subst h
  exact⟨us,rfl,h1,h2⟩
 |cons p ps ih=>
  intro cs out us h h1 h2
  obtain⟨i,x⟩:=p
  simp only[ApH,Eh]at h
  split at h
  ·cases h
  ·rename_i off size hp
   split at h
   ·cases h
   ·rename_i vs hv
    split at h
    ·cases h
    ·rename_i hd
     split at h
     ·cases h
     ·rename_i cs1 hc
      simp only[Aok]at hd
      have hrx:=cells?_ok hv (hr x)
      have h1x:=cells?_one hv (hr x)
      obtain⟨hle,hr1⟩:=Jp hc h1 hrx
      have hlen:=As hrx
      have hlen2:=As h1
      have hsz:(ρc x).cells.size=size:=by rw[← Aoz,hlen,hd]
      have hfold:((ρc x).cells.zipIdx.foldl (fun cs (c,j)=>cs.setIfInBounds (off+j) c) us).toList=us.toList.take off++(ρc x).cells.toList++us.toList.drop (off+vs.length):=by
       have:=Zc off (ρc x).cells.toList 0 us (by simp only[Aoz]at hlen2 hlen ⊢;omega)
       rw[← Array.foldl_toList,Array.toList_zipIdx,this]
       rw[Ap5,hlen]
      obtain⟨us',e1,e2,e3⟩:=ih (us:=(ρc x).cells.zipIdx.foldl (fun cs (c,j)=>cs.setIfInBounds (off+j) c) us) h (by rw[hfold];exact hr1) (by
       rw[hfold]
       intro y hy
       simp only[Aom]at hy
       rcases hy with(hy|hy)|hy
       ·exact h2 y (Aq4 hy)
       ·exact h1x y hy
       ·exact h2 y (AqG hy))
      refine⟨us',?_,e2,e3⟩
      simp only[ApH,Instr.fill,hpl _ _ hp]
      rw[Aor (by
       simp only[Aoz]at hlen2
       simp[hsz];omega)]
      exact e1
end
end Go.Pev
end
section
namespace Go.Pev
open Go.RowKit
section
variable {P:Program}
theorem AUr{w w':World}{F F':Nat→Prop}{m m':Mp}{H H':List Ob}(h:∀ {a:AV} {v:Value},Rep w F m H a v→Rep w' F' m' H' a v){cs:List AV}{us:List Value}(hr:Ae w F m H cs us):Ae w' F' m' H' cs us:=by
 refine DV (As hr) fun i c v hc hv => ?_
 obtain⟨v',hv',hr'⟩:=CN hr hc
 rw[hv]at hv';cases hv'
 exact h hr'
theorem AJ3{H:List Ob}{fz:List Bool}{id:Nat}{T:TypeId}{tgt:Nat}{is:List Int}(h:H[id]? = some (.prs T tgt is)):owned H fz id:=by simp only[owned,Bn];rw[h];trivial
theorem ATs{H:List Ob}{fz:List Bool}{slot id:Nat}{T:TypeId}{tgt:Nat}{is:List Int}(hf:At H fz slot=true)(ho:H[id]? = some (.prs T tgt is)):slot≠id:=by
 rintro rfl
 rw[(BN hf).1]at ho;cases ho
theorem Zi{T e:TypeId}(h:cellAt P T=some e):P.underlying T=some (.slice e)∧∃ i z,P.info? e=some i∧i.zero=some z∧i.size=1∧z.cells.size=1∧i.bytes≤1024:=by
 unfold cellAt at h
 split at h
 ·rename_i e' hu
  split at h
  ·rename_i i hi
   split at h
   ·rename_i z hz
    split at h
    ·rename_i hd
     simp only[Aoh]at h
     subst h
     simp only[Aol,Aok]at hd
     exact⟨hu,i,z,hi,hz,hd.1,hd.2.1,hd.2.2⟩
    ·cases h
   ·cases h
  ·cases h
 ·cases h
theorem AIe{w:World}{F:Nat→Prop}{m:Mp}{H:List Ob}{fz:List Bool}(hi:HI w F m H fz){slot:Nat}(hf:At H fz slot=true)(T:TypeId)(tgt:Nat)(a:Option Addr):
  ∃ m',Ap w F m H fz w F m' (H.set slot (.prs T tgt [])) fz∧Rep w F m' (H.set slot (.prs T tgt [])) (.own slot) (.slice a 0 0):=by
 have hg:=Ap.new (w':=w) hi hf (ob:=.prs T tgt []) trivial none rfl rfl rfl (Aop _) (fun _ _=>rfl) (fun b c h=>by cases h) (fun _=>(rfl:([]:List Int)=[]))
 refine⟨_,hg,?_⟩
 unfold Rep
 have hlt:=Al (BN hf).1
 rw[Aw hlt,Aq]
 exact⟨a,rfl⟩
theorem TB{w:World}{F:Nat→Prop}{m:Mp}{H:List Ob}{fz:List Bool}(hi:HI w F m H fz){slot:Nat}(hf:At H fz slot=true){T:TypeId}{tgt:Nat}{is:List Int}{vs:Array Value}{cap:Nat}
  {w':World} (hb:w'.heap[w.heap.size]? = some (.cells vs T (0,0))) (h1:w'.os=w.os) (h2:w'.tape=w.tape) (h3:w'.output=w.output) (hsz:w.heap.size≤w'.heap.size) (hk:∀ b,b<w.heap.size→w'.heap[b]? = w.heap[b]?)
  (hcap:is.length≤cap) (hmax:cap≤maxLen) (hvs:vs.size=cap) {us:List Value} (hr:Ae w F m H (Fv tgt is) us) (hone:∀ u∈us,u.oneCell'=true) (htake:vs.toList.take us.length=us) :
  ∃ m',Ap w F m H fz w' F m' (H.set slot (.prs T tgt is)) fz∧Rep w' F m' (H.set slot (.prs T tgt is)) (.own slot) (.slice (some ⟨w.heap.size,0,none⟩) is.length cap):=by
 have hg:=Ap.new (w':=w') hi hf (ob:=.prs T tgt is) trivial (some (w.heap.size,cap)) h1 h2 h3 hsz hk (fun b c h=>by cases h;exact Aop _)
  (fun hmono=>⟨vs,us,hb,hcap,hmax,hvs,AUr hmono hr,hone,htake⟩)
 refine⟨_,hg,?_⟩
 unfold Rep
 have hlt:=Al (BN hf).1
 rw[Aw hlt,Aq]
 rfl
theorem ADL(tgt:Nat)(is:List Int):(Fv tgt is).length=is.length:=by simp[Fv]
theorem Ahy(tgt:Nat)(is js:List Int):Fv tgt (is++js)=Fv tgt is++Fv tgt js:=by simp[Fv]
end
end Go.Pev
end
section
namespace Go.Pev
open Go.RowKit
section
variable {w w':World} {F:Nat→Prop} {m:Mp} {H:List Ob} {fz:List Bool}
theorem CQ{α:Type}{xs:List α}{k:Nat}{y:α}(h:xs[k]? = some y):k<xs.length:=by
 rcases ApT k xs.length with h'|h'
 ·exact h'
 ·rw[ApD h']at h;cases h
theorem Kb{id k:Nat}{T:RK}{e:TypeId}{t:Ty}{xs:List (List t.den)}{ver:Nat}{out:Option Nat}(ho:H[id]? = some (.rows T e t xs ver out))(hun:fz.getD id false=false)(hk:k<List.length (α:=List t.den) xs):owned H fz (.r id k):=by
 simp only[owned];rw[ho];exact⟨hk,hun⟩
theorem AER{id:Nat}{T:RK}{e:TypeId}{t:Ty}{xs:List (List t.den)}{ver:Nat}{out:Option Nat}(ho:H[id]? = some (.rows T e t xs ver out))(hun:fz.getD id false=false):owned H fz id:=by
 simp only[owned,Bn];rw[ho];exact hun
def AU0(m:Mp)(x:Ix)(l:Option (Nat×Nat)):Mp:=fun y=>if y=x then l else m y
theorem Hd(m:Mp)(x:Ix)(l:Option (Nat×Nat)):AU0 m x l x=l:=by simp[AU0]
theorem Bh{m:Mp}{x y:Ix}{l:Option (Nat×Nat)}(h:y≠x):AU0 m x l y=m y:=by simp[AU0,h]
theorem Ap.AoL(hi:HI w F m H fz){slot:Nat}(hs:At H fz slot=true){T:RK}{e:TypeId}{t:Ty}{n:Nat}(l:Option (Nat×Nat))
  (h1:w'.os=w.os) (h2:w'.tape=w.tape) (h3:w'.output=w.output) (hsz:w.heap.size≤w'.heap.size) (hb:∀ b,b<w.heap.size→w'.heap[b]? = w.heap[b]?)
  (hl:∀ b c,l=some (b,c)→w.heap.size≤b) (hpos:0<t.size)
  (hob:ObI w' F m H (.rows T e t (List.replicate n ([]:List t.den)) 0 none) l) (hhd:∀ k,k<n→∃ b cap a,l=some (b,cap)∧Iz w' T b k (.slice a 0 0)) :
  Ap w F m H fz w' F (Pc m slot l fun _=>none) (H.set slot (.rows T e t (List.replicate n ([]:List t.den)) 0 none)) fz:=by
 obtain⟨hs1,hs2⟩:=BN hs
 have hlt:=Al hs1
 have hcell:∀ b,F b→w'.heap[b]? = w.heap[b]? := fun b hF=>hb b (hi.lt b hF)
 have hgs:(H.set slot (.rows T e t (List.replicate n ([]:List t.den)) 0 none))[slot]? = some (.rows T e t (List.replicate n ([]:List t.den)) 0 none):=Aw hlt
 have hcomp:CF H (H.set slot (.rows T e t (List.replicate n ([]:List t.den)) 0 none)) m (Pc m slot l fun _=>none):=by
  intro i o hio hf
  have hne:i≠slot:=by rintro rfl;rw[hs1]at hio;cases hio;exact hf rfl
  rcases CF.refl H m i o hio hf with h|⟨hd,o',h4,h5,_⟩
  ·exact .inl (by rw[Ad hne];exact h)
  ·exact .inr ⟨hd,o',by rw[Ad hne];exact h4,h5,HM hne,fun _ _ k=>HM hne⟩
 have hown:∀ x:Ix,owned (H.set slot (.rows T e t (List.replicate n ([]:List t.den)) 0 none)) fz x→(x.id≠slot∧owned H fz x)∨x = .o slot∨∃ k,x = .r slot k:=fun x hx=>by
  by_cases hid:x.id=slot
  ·cases x with
   |o i=>exact .inr (.inl (AqD Ix.o hid))
   |r i k=>have hid:i=slot:=hid;subst hid;exact .inr (.inr ⟨k,rfl⟩)
  ·exact .inl ⟨hid,(CV (Ad hid)).1 hx⟩
 have src:∀ (x:Ix) (b c:Nat),owned (H.set slot (.rows T e t (List.replicate n ([]:List t.den)) 0 none)) fz x→Pc m slot l (fun _=>none) x=some (b,c)→(x.id≠slot∧owned H fz x∧m x=some (b,c))∨(x = .o slot∧l=some (b,c)):=by
  intro x b c hx hm
  rcases hown x hx with⟨h,h'⟩|rfl|⟨k,rfl⟩
  ·rw[HM h]at hm;exact .inl ⟨h,h',hm⟩
  ·rw[K7]at hm;exact .inr ⟨rfl,hm⟩
  ·rw[ALF]at hm;cases hm
 refine⟨⟨h1,h2,h3,hsz,fun b h _=>hb b h,fun _ h=>h,fun _ h=>.inl h,?_,hcomp⟩,⟨?_,?_,?_,?_,?_,?_,fun b h=>Ap6 (hi.lt b h) hsz,hi.glo.mono hcell (fun _ h=>h),by simpa using hi.len⟩⟩
 ·intro x b c hx hm
  rcases src x b c hx hm with⟨_,h,h'⟩|⟨_,h⟩
  ·exact .inl ⟨x,c,h,h'⟩
  ·exact .inr (hl b c h)
 ·intro i o hio
  by_cases hne:i=slot
  ·subst hne
   rw[hgs]at hio;cases hio
   rw[K7]
   exact hob
  ·rw[Ad hne]at hio
   rw[HM (x:=.o i) hne]
   exact ObI.mono hcell (fun _ h=>h) hcomp (fun _ _ b c _ hlt=>hb b hlt) (hi.obj i o hio)
 ·intro i
  by_cases hne:i=slot
  ·subst hne
   intro T' e' t' xs ver out hio k ys hk
   rw[hgs]at hio;cases hio
   have hkn:k<n:=by simpa using CQ hk
   have hys:ys=[]:=by
    rw[AqE,Aoq hkn]at hk;exact(Apr hk).symm
   subst hys
   rw[ALF]
   obtain⟨b,cap,a,a1,a2⟩:=hhd k hkn
   exact⟨⟨hpos,rfl⟩,fun _=>⟨b,cap,_,K7.trans a1,a2,a,rfl⟩⟩
  ·exact Bw.mono hcell (fun _ h=>h) hcomp (Ad hne) (fun x hx=>HM (by rw[hx];exact hne)) (fun _ _ _ b c _ hlt=>hb b hlt) (hi.row i)
 ·intro i T' e' t' xs ver out hio hf x hx ht b c hm
  by_cases hne:i=slot
  ·subst hne;rw[hs2]at hf;cases hf
  ·rw[Ad hne]at hio
   rw[HM (by rw[hx];exact hne)]at hm
   exact hi.rfz i T' e' t' xs ver out hio hf x hx ((CS (by rw[hx];exact Ad hne)).1 ht) b c hm
 ·intro x y b c b' c' hx hy hxy hmx hmy
  rcases src x b c hx hmx with⟨_,p1,p2⟩|⟨rfl,p2⟩
  ·rcases src y b' c' hy hmy with⟨_,q1,q2⟩|⟨rfl,q2⟩
   ·exact hi.sep x y b c b' c' p1 q1 hxy p2 q2
   ·have:=hi.IJ p1 p2;have:=hl b' c' q2;omega
  ·rcases src y b' c' hy hmy with⟨_,q1,q2⟩|⟨rfl,q2⟩
   ·have:=hi.IJ q1 q2;have:=hl b c p2;omega
   ·exact absurd rfl hxy
 ·intro x b c hx hm hF
  rcases src x b c hx hm with⟨_,p1,p2⟩|⟨_,p2⟩
  ·exact hi.off x b c p1 p2 hF
  ·have:=hl b c p2;have:=hi.lt b hF;omega
 ·intro i T' t' xs b c hio hf hm
  by_cases hne:i=slot
  ·subst hne;rw[hs2]at hf;cases hf
  ·rw[Ad hne]at hio
   rw[HM (x:=.o i) hne]at hm
   exact hi.froz i T' t' xs b c hio hf hm
theorem Hdr.out{w:World}{K:RK}{n k:Nat}{b cap:Nat}(h:Hdr w K n none b cap)(hk:k<n):Hdr w K n (some k) b cap:=by
 cases K with
 |arr T=>exact h
 |map j ks=>obtain⟨ms,clock,e1,e2,e3,e4,_⟩:=h;exact⟨ms,clock,e1,e2,e3,.inl (e4.resolve_right fun h=>by cases h.1),fun k' h=>by cases h;exact hk⟩
theorem Ap.HR(hi:HI w F m H fz){id k:Nat}{T:RK}{e:TypeId}{t:Ty}{xs xs1:List (List t.den)}{ver:Nat}(ho:H[id]? = some (.rows T e t xs ver none))(hun:fz.getD id false=false)(l:Option (Nat×Nat))
  {ys:List t.den} (hxk:xs1[k]? = some ys) (hxo:∀ k',k'≠k→xs1[k']? = xs[k']?) (hxa:T.JE=true→xs.length=xs1.length)
  (hhd:∀ b cap,m id=some (b,cap)→Hdr w T xs.length none b cap→Hdr w T xs1.length (some k) b cap) (hhn:T.JE=true→xs=[]→xs1=[])
  (hl:∀ b c,l=some (b,c)→(∃ c0,owned H fz (.r id k)∧m (.r id k)=some (b,c0))∨w.heap.size≤b)
  (h1:w'.os=w.os) (h2:w'.tape=w.tape) (h3:w'.output=w.output) (hsz:w.heap.size≤w'.heap.size) (hb:∀ b,b<w.heap.size→(∀ c,owned H fz (.r id k)→m (.r id k)≠some (b,c))→w'.heap[b]? = w.heap[b]?)
  (hob:(∀ {d:t.den} {cs:List Value},Dat w F t d cs→Dat w' F t d cs)→ObI w' F m H (.arr e t ys) l) :
  Ap w F m H fz w' F (AU0 m (.r id k) l) (H.set id (.rows T e t xs1 (ver+1) (some k))) fz:=by
 have hlt:=Al ho
 have hgs:(H.set id (.rows T e t xs1 (ver+1) (some k)))[id]? = some (.rows T e t xs1 (ver+1) (some k)):=Aw hlt
 have hcell:∀ b,F b→w'.heap[b]? = w.heap[b]? := fun b ha=>hb b (hi.lt _ ha) fun c hor hc=>hi.off _ _ c hor hc ha
 have hne:∀ {x:Ix},there H x→x≠.r id k→∀ b c,m x=some (b,c)→b<w.heap.size→w'.heap[b]? = w.heap[b]? := fun ht hx b c hm hlt'=>hb b hlt' fun c' hor hc'=>hi.neX hor hc' ht hm hx rfl
 have hcomp:CF H (H.set id (.rows T e t xs1 (ver+1) (some k))) m (AU0 m (.r id k) l):=by
  intro i o hio hf
  by_cases hni:i=id
  ·subst hni
   rw[ho]at hio;cases hio
   refine .inr ⟨by simp,_,hgs,⟨rfl,hxa,.inl (Nat.lt_succ_self _)⟩,Bh (by simp),fun _ hv => ?_⟩
   simp only[Rr]at hv;omega
  ·rcases CF.refl H m i o hio hf with h|⟨hd,o',h4,h5,_⟩
   ·exact .inl (by rw[Ad hni];exact h)
   ·exact .inr ⟨hd,o',by rw[Ad hni];exact h4,h5,Bh (by simp),fun _ _ k'=>Bh (by simp[hni])⟩
 have hdat:∀ {d:t.den} {cs:List Value},Dat w F t d cs→Dat w' F t d cs:=fun h=>h.mono hcell (fun _ h=>h) t
 have hlow:∀ k',k'≠k→k'<xs1.length→k'<xs.length:=fun k' hk hl'=>by
  have:=hxo k' hk
  rw[Aon hl']at this
  exact CQ this.symm
 have hown:∀ x:Ix,x≠.r id k→owned (H.set id (.rows T e t xs1 (ver+1) (some k))) fz x→owned H fz x:=fun x hxk hx=>by
  by_cases hid:x.id=id
  ·cases x with
   |o i=>have hid:i=id:=hid;subst hid;exact AER ho hun
   |r i k'=>
    have hid:i=id:=hid;subst hid
    simp only[owned]at hx
    rw[hgs]at hx
    exact Kb ho hun (hlow k' (by rintro rfl;exact hxk rfl) hx.1)
  ·exact(CV (Ad hid)).1 hx
 refine⟨⟨h1,h2,h3,hsz,fun b h hn=>hb b h fun c hor hc=>hn _ c hor hc,fun _ h=>h,fun _ h=>.inl h,?_,hcomp⟩,⟨?_,?_,?_,?_,?_,?_,fun b h=>Ap6 (hi.lt b h) hsz,hi.glo.mono hcell (fun _ h=>h),by simpa using hi.len⟩⟩
 ·intro x b c hx hm
  by_cases hxk:x = .r id k
  ·subst hxk
   rw[Hd]at hm
   rcases hl b c hm with⟨c0,hor,h⟩|h
   ·exact .inl ⟨_,c0,hor,h⟩
   ·exact .inr h
  ·rw[Bh hxk]at hm
   exact .inl ⟨x,c,hown x hxk hx,hm⟩
 ·intro i o hio
  rw[Bh (by simp)]
  by_cases hni:i=id
  ·subst hni
   rw[hgs]at hio;cases hio
   obtain⟨h4,h5⟩:=hi.obj i _ ho
   refine⟨h4,?_⟩
   cases hm:m i with
   |none=>rw[hm]at h5;exact⟨h5.1,hhn h5.1 h5.2⟩
   |some p=>
    obtain⟨b,cap⟩:=p
    rw[hm]at h5
    exact Hdr.mono (fun hl'=>hne (x:=.o i) ⟨_,ho,by simp,by simp⟩ (by simp) b cap hm hl') (hhd b cap hm h5)
  ·rw[Ad hni]at hio
   exact ObI.mono hcell (fun _ h=>h) hcomp (fun n1 n2 b c hm hlt'=>hne (x:=.o i) ⟨_,hio,n1,n2⟩ (by simp) b c hm hlt') (hi.obj i o hio)
 ·intro i
  by_cases hni:i=id
  ·subst hni
   intro T' e' t' xs' ver' out hio k' ys' hk'
   rw[hgs]at hio;cases hio
   by_cases hkk:k'=k
   ·subst hkk
    rw[hxk]at hk'
    cases hk'
    rw[Hd]
    refine⟨?_,fun h=>absurd rfl h⟩
    obtain⟨q1,q2⟩:=hob hdat
    exact⟨q1,q2⟩
   ·rw[hxo k' hkk]at hk'
    have hlt':=CQ hk'
    obtain⟨q1,q2⟩:=hi.row i T e t xs ver none ho k' ys' hk'
    have hth:there H (.r i k'):=by simp only[there];rw[ho];exact hlt'
    rw[Bh (by simp[hkk])]
    refine⟨ObI.mono hcell (fun _ h=>h) hcomp (fun _ _ b c hm hl'=>hne hth (by simp[hkk]) b c hm hl') q1,fun _ => ?_⟩
    obtain⟨b,cap,u,a1,a2,a3⟩:=q2 (by simp)
    exact⟨b,cap,u,(Bh (by simp)).trans a1,a2.mono (hne (x:=.o i) ⟨_,ho,by simp,by simp⟩ (by simp) b cap a1),a3⟩
  ·exact Bw.mono hcell (fun _ h=>h) hcomp (Ad hni) (fun x hx=>Bh (by rintro rfl;exact hni hx.symm)) (fun x hx ht b c hm hl'=>hne ht (by rintro rfl;exact hni hx.symm) b c hm hl') (hi.row i)
 ·intro i T' e' t' xs' ver' out hio hf x hx ht b c hm
  by_cases hni:i=id
  ·subst hni;rw[hun]at hf;cases hf
  ·rw[Ad hni]at hio
   rw[Bh (by rintro rfl;exact hni hx.symm)]at hm
   exact hi.rfz i T' e' t' xs' ver' out hio hf x hx ((CS (by rw[hx];exact Ad hni)).1 ht) b c hm
 ·intro x y b c b' c' hx hy hxy hmx hmy
  by_cases hxk:x = .r id k
  ·subst hxk
   rw[Hd]at hmx
   rw[Bh (ApN hxy)]at hmy
   rcases hl b c hmx with⟨c0,hor,h⟩|h
   ·exact hi.sep _ y b c0 b' c' hor (hown y (ApN hxy) hy) hxy h hmy
   ·have:=hi.IJ (hown y (ApN hxy) hy) hmy;omega
  ·rw[Bh hxk]at hmx
   by_cases hyk:y = .r id k
   ·subst hyk
    rw[Hd]at hmy
    rcases hl b' c' hmy with⟨c0,hor,h⟩|h
    ·exact hi.sep x _ b c b' c0 (hown x hxk hx) hor hxy hmx h
    ·have:=hi.IJ (hown x hxk hx) hmx;omega
   ·rw[Bh hyk]at hmy
    exact hi.sep x y b c b' c' (hown x hxk hx) (hown y hyk hy) hxy hmx hmy
 ·intro x b c hx hm hF
  by_cases hxk:x = .r id k
  ·subst hxk
   rw[Hd]at hm
   rcases hl b c hm with⟨c0,hor,h⟩|h
   ·exact hi.off _ b c0 hor h hF
   ·have:=hi.lt b hF;omega
  ·rw[Bh hxk]at hm
   exact hi.off x b c (hown x hxk hx) hm hF
 ·intro i T' t' xs' b c hio hf hm
  have hni:i≠id:=by rintro rfl;rw[hun]at hf;cases hf
  rw[Ad hni]at hio
  rw[Bh (by simp)]at hm
  exact hi.froz i T' t' xs' b c hio hf hm
theorem Ap.row(hi:HI w F m H fz){id k:Nat}{T:RK}{e:TypeId}{t:Ty}{xs:List (List t.den)}{ver:Nat}(ho:H[id]? = some (.rows T e t xs ver none))(hun:fz.getD id false=false)(hk:k<List.length (α:=List t.den) xs)(l:Option (Nat×Nat))
  (hl:∀ b c,l=some (b,c)→(∃ c0,m (.r id k)=some (b,c0))∨w.heap.size≤b)
  (h1:w'.os=w.os) (h2:w'.tape=w.tape) (h3:w'.output=w.output) (hsz:w.heap.size≤w'.heap.size) (hb:∀ b,b<w.heap.size→(∀ c,m (.r id k)≠some (b,c))→w'.heap[b]? = w.heap[b]?)
  {ys:List t.den} (hob:(∀ {d:t.den} {cs:List Value},Dat w F t d cs→Dat w' F t d cs)→ObI w' F m H (.arr e t ys) l) :
  Ap w F m H fz w' F (AU0 m (.r id k) l) (H.set id (.rows T e t (xs.set k ys) (ver+1) (some k))) fz:=
 Ap.HR hi ho hun l (Ap7 hk) (fun k' h=>ApM (ApN h)) (fun _=>List.length_set.symm) (fun b cap _ h=>by rw[Apf];exact h.out hk) (fun _ h=>by rw[h];rfl)
  (fun b c h=>(hl b c h).imp (fun ⟨c0,h⟩=>⟨c0,Kb ho hun hk,h⟩) (fun h=>h)) h1 h2 h3 hsz (fun b h hn=>hb b h fun c hc=>hn c (Kb ho hun hk) hc) hob
theorem Ap.AoJ(hi:HI w F m H fz){id k:Nat}{T T1:RK}{e:TypeId}{t:Ty}{xs:List (List t.den)}{ver:Nat}{ys:List t.den}(ho:H[id]? = some (.rows T e t xs ver (some k)))(hun:fz.getD id false=false)(hk:xs[k]? = some ys)(hTT:T.JE=T1.JE)
  {b cap:Nat} (hm:m id=some (b,cap)) {u:Value} (hu:A8 (some (.arr e t ys)) (m (.r id k)) u)
  (h1:w'.os=w.os) (h2:w'.tape=w.tape) (h3:w'.output=w.output) (hsz:w'.heap.size=w.heap.size) (hho:∀ k',k'≠b→w'.heap[k']? = w.heap[k']?)
  (hhd:Hdr w T xs.length (some k) b cap→Hdr w' T1 xs.length none b cap∧Iz w' T1 b k u) (hco:∀ k' v,k'≠k→Iz w T b k' v→Iz w' T1 b k' v) :
  Ap w F m H fz w' F m (H.set id (.rows T1 e t xs ver none)) fz:=by
 have hlt:=Al ho
 have hkl:=CQ hk
 have hor:=AER ho hun
 have hgs:(H.set id (.rows T1 e t xs ver none))[id]? = some (.rows T1 e t xs ver none):=Aw hlt
 have hcell:∀ b,F b→w'.heap[b]? = w.heap[b]? := fun k' ha=>hho k' (by rintro h;exact hi.off _ b cap hor hm (h▸ha))
 have hne:∀ {x:Ix},there H x→x≠.o id→∀ b' c,m x=some (b',c)→w'.heap[b']? = w.heap[b']? := fun ht hx b' c hm'=>hho b' (hi.neX hor hm ht hm' hx)
 have hcomp:CF H (H.set id (.rows T1 e t xs ver none)) m m:=by
  intro i o hio hf
  by_cases hni:i=id
  ·subst hni
   rw[ho]at hio;cases hio
   exact .inr ⟨by simp,_,hgs,⟨hTT,fun _=>rfl,.inr ⟨rfl,rfl⟩⟩,rfl,fun _ _ _=>rfl⟩
  ·rcases CF.refl H m i o hio hf with h|⟨hd,o',h4,h5,_⟩
   ·exact .inl (by rw[Ad hni];exact h)
   ·exact .inr ⟨hd,o',by rw[Ad hni];exact h4,h5,rfl,fun _ _ _=>rfl⟩
 have hown:∀ x:Ix,owned (H.set id (.rows T1 e t xs ver none)) fz x→owned H fz x:=fun x hx=>by
  by_cases hid:x.id=id
  ·cases x with
   |o i=>have hid:i=id:=hid;subst hid;exact hor
   |r i k'=>
    have hid:i=id:=hid;subst hid
    simp only[owned]at hx
    rw[hgs]at hx
    exact Kb ho hun hx.1
  ·exact(CV (Ad hid)).1 hx
 obtain⟨hz0,hz1⟩:=hi.obj id _ ho
 rw[hm]at hz1
 obtain⟨hz2,hz3⟩:=hhd hz1
 refine⟨⟨h1,h2,h3,Aqw hsz.symm,fun b' h hn=>hho b' (by rintro rfl;exact hn _ cap hor hm),fun _ h=>h,fun _ h=>.inl h,fun x b' c hx hm'=>.inl ⟨x,c,hown x hx,hm'⟩,hcomp⟩,⟨?_,?_,?_,?_,?_,?_,fun b' h=>by rw[hsz];exact hi.lt b' h,hi.glo.mono hcell (fun _ h=>h),by simpa using hi.len⟩⟩
 ·intro i o hio
  by_cases hni:i=id
  ·subst hni
   rw[hgs]at hio;cases hio
   refine⟨hz0,?_⟩
   rw[hm]
   exact hz2
  ·rw[Ad hni]at hio
   exact ObI.mono hcell (fun _ h=>h) hcomp (fun n1 n2 b' c hm' _=>hne (x:=.o i) ⟨_,hio,n1,n2⟩ (by simp[hni]) b' c hm') (hi.obj i o hio)
 ·intro i
  by_cases hni:i=id
  ·subst hni
   intro T' e' t' xs' ver' out hio k' ys' hk'
   rw[hgs]at hio;cases hio
   have hlt':=CQ hk'
   obtain⟨q1,q2⟩:=hi.row i T e t xs ver (some k) ho k' ys' hk'
   have hth:there H (.r i k'):=by simp only[there];rw[ho];exact hlt'
   refine⟨ObI.mono hcell (fun _ h=>h) hcomp (fun _ _ b' c hm' _=>hne hth (by simp) b' c hm') q1,fun _ => ?_⟩
   by_cases hkk:k'=k
   ·subst hkk
    rw[hk]at hk';cases hk'
    exact⟨b,cap,u,hm,hz3,hu⟩
   ·obtain⟨b2,cap2,u2,a1,a2,a4⟩:=q2 (by simpa using ApN hkk)
    rw[hm]at a1;cases a1
    exact⟨b,cap,u2,hm,hco k' u2 hkk a2,a4⟩
  ·exact Bw.mono hcell (fun _ h=>h) hcomp (Ad hni) (fun _ _=>rfl) (fun x hx ht b' c hm' _=>hne ht (by rintro rfl;exact hni hx.symm) b' c hm') (hi.row i)
 ·intro i T' e' t' xs' ver' out hio hf x hx ht b' c hm'
  by_cases hni:i=id
  ·subst hni;rw[hun]at hf;cases hf
  ·rw[Ad hni]at hio
   exact hi.rfz i T' e' t' xs' ver' out hio hf x hx ((CS (by rw[hx];exact Ad hni)).1 ht) b' c hm'
 ·exact fun x y b' c' b2 c2 hx hy=>hi.sep x y b' c' b2 c2 (hown x hx) (hown y hy)
 ·exact fun x b' c' hx=>hi.off x b' c' (hown x hx)
 ·intro i T' t' xs' b' c hio hf hm'
  have hni:i≠id:=by rintro rfl;rw[hun]at hf;cases hf
  rw[Ad hni]at hio
  exact hi.froz i T' t' xs' b' c hio hf hm'
theorem Ap.put(hi:HI w F m H fz){id k:Nat}{T e:TypeId}{t:Ty}{xs:List (List t.den)}{ver:Nat}{ys:List t.den}(ho:H[id]? = some (.rows (.arr T) e t xs ver (some k)))(hun:fz.getD id false=false)(hk:xs[k]? = some ys)
  {b cap:Nat} (hm:m id=some (b,cap)) {vs vs':Array Value} (hw:w.heap[b]? = some (.cells vs T (0,0))) {u:Value} (hu:A8 (some (.arr e t ys)) (m (.r id k)) u)
  (h1:w'.os=w.os) (h2:w'.tape=w.tape) (h3:w'.output=w.output) (hsz:w'.heap.size=w.heap.size) (hho:∀ k',k'≠b→w'.heap[k']? = w.heap[k']?) (hhb:w'.heap[b]? = some (.cells vs' T (0,0))) (hvs:vs'.toList=vs.toList.set k u) :
  Ap w F m H fz w' F m (H.set id (.rows (.arr T) e t xs ver none)) fz:=by
 have hvz:vs'.size=vs.size:=by rw[← Aoz,hvs,Apf,Aoz]
 refine Ap.AoJ hi ho hun hk rfl hm hu h1 h2 h3 hsz hho ?_ ?_
 ·rintro⟨vs1,e1,e2,e3,e4,e5⟩
  rw[hw]at e1;cases e1
  refine⟨⟨_,hhb,e2,e3,hvz.trans e4,fun v hv => ?_⟩,_,hhb,?_⟩
  ·rw[hvs]at hv
   rcases ArX hv with h|rfl
   ·exact e5 v h
   ·exact A8.one hu
  ·rw[hvs,Ap7 (by rw[show vs.toList.length=cap from e4];exact Ap6 (CQ hk) e2)]
 ·rintro k' v hkk ⟨vs2,a2,a3⟩
  rw[hw]at a2;cases a2
  refine⟨_,hhb,?_⟩
  rw[hvs,ApM (ApN hkk)]
  exact a3
theorem AQ2(hi:HI w F m H fz){id k:Nat}{T:RK}{e:TypeId}{t:Ty}{xs:List (List t.den)}{ver:Nat}(ho:H[id]? = some (.rows T e t xs ver none))(hk:k<List.length (α:=List t.den) xs):
  ∃ b cap u,m id=some (b,cap)∧Iz w T b k u∧Rep w F m H (.rowp id k ver) u:=by
 have hys:xs[k]? = some xs[k]:=Aon hk
 obtain⟨_,h2⟩:=hi.row id T e t xs ver none ho k _ hys
 obtain⟨b,cap,u,a1,a2,a4⟩:=h2 (by simp)
 refine⟨b,cap,u,a1,a2,?_⟩
 unfold Rep
 rw[ho]
 exact⟨A8.one a4,Aop _,fun _=>.inl ⟨_,hys,a4⟩⟩
end
end Go.Pev
end
section
namespace Go.Pev
open Go.RowKit
section
variable {P:Program} {E:Env}
theorem info_of_underlying{T:TypeId}{d:TypeDesc}(h:P.underlying T=some d):∃ i,P.info? T=some i:=by
 unfold Program.underlying at h
 split at h
 ·rename_i h1;exact⟨_,h1⟩
 ·rename_i h1;exact⟨_,h1⟩
 ·cases h
theorem AAD{n:Nat}{T:TypeId}{t:Ty}(h:AAE P n T=some t):∃ d,P.underlying T=some d:=by
 cases n with
 |zero=>simp[AAE]at h
 |succ n=>
  simp only[AAE]at h
  split at h<;>first|exact⟨_,by assumption⟩|cases h
theorem mapM_some{α β:Type}{f:α→Option β}:∀ {l:List α} {ys:List β},l.mapM f=some ys→∀ x∈l,∃ y,f x=some y:=by
 intro l
 induction l with
 |nil=>intro ys _ x hx;cases hx
 |cons a l ih=>
  intro ys h x hx
  rw[List.mapM_cons]at h
  simp only[bind,ApO,pure]at h
  obtain⟨y,h1,ys',h2,_⟩:=h
  rcases Aoo.1 hx with rfl|hx
  ·exact⟨y,h1⟩
  ·exact ih h2 x hx
theorem ATx{T:TypeId}{t:Ty}{fs:Array Field}(ht:ALI P T=some t)(hu:P.underlying T=some (.struct fs)):∀ f∈fs.toList,∃ i,P.info? f.type=some i:=by
 have gen:∀ n,AAE P (n+1) T=some t→∃ ts,fs.toList.mapM (fun f=>AAE P n f.type)=some ts:=by
  intro n h
  simp only[AAE,hu,Aoy]at h
  exact⟨_,h.choose_spec.1⟩
 obtain⟨ts,h1⟩:=gen 11 ht
 intro f hf
 obtain⟨t',h2⟩:=mapM_some h1 f hf
 obtain⟨d,h3⟩:=AAD h2
 exact info_of_underlying h3
theorem run_places(w:World):∀ (l:List Field),(∀ f∈l,∃ i,P.info? f.type=some i) →
  (l.mapM (fun f=>do pure (f.offset,← sizeOf f.type):Field→Sem (Nat×Nat))).run P w = .ok (l.map fun f=>(f.offset,(BJ P f.type).getD 0)) w:=by
 intro l
 induction l with
 |nil=>intro _;simp[List.mapM_nil]
 |cons f l ih=>
  intro h
  obtain⟨i,hi⟩:=h f (by simp)
  rw[List.mapM_cons]
  have:=ih fun g hg=>h g (by simp[hg])
  simp only[Sem.run_bind,run_sizeOf hi,Result.andThen_ok,Sem.run_pure,this,ApH,BJ,hi,AqQ,ApF]
theorem AWv{T:TypeId}{cs:List AV}{fs:Array Field}(h:Ahu P T=some cs)(hu:P.underlying T=some (.struct fs)):
  ∃ i z,P.info? T=some i∧i.zero=some z∧(∀ u∈z.cells.toList,u.oneCell'=true)∧(∀ f∈fs.toList,∃ i,P.info? f.type=some i)∧cs=List.replicate z.cells.toList.length .junk:=by
 unfold Ahu at h
 split at h
 ·rename_i i fs' hi hu'
  rw[hu]at hu'
  cases hu'
  split at h
  ·rename_i z hz
   split at h
   ·rename_i hok
    cases h
    rw[Aol,Ao2,Ao2]at hok
    refine⟨i,z,hi,hz,hok.1,fun f hf => ?_,by simp⟩
    have:=hok.2 f hf
    rw[Ap8]at this
    exact this
   ·cases h
  ·cases h
 ·cases h
theorem AKt{w:World}{F:Nat→Prop}{m:Mp}{H:List Ob}:∀ vs:List Value,Ae w F m H (List.replicate vs.length .junk) vs
 |[]=>by simp[Ae]
 |v::vs=>by
  rw[Aot,List.replicate_succ]
  unfold Ae
  exact⟨v,vs,rfl,by unfold Rep;trivial,AKt vs⟩
theorem AUO(T:TypeId)(parts:Array (Nat×Operand)):Claim P E (.build T parts):=by
 intro R ty ρ H fz slot k r h
 simp only[evalOp]at h
 split at h
 ·rename_i t cs hz
  obtain⟨hty,rfl,i,z,hi0,hz0,hok,hsz,hza⟩:=Bl hz
  split at h
  ·rename_i fs hu
   split at h
   ·rename_i cs' hb
    refine⟨_,_,h,fun R' k'=>by simp only[evalOp,hz,hu,hb],AX fun w F m ρc o ho ht hi hr => ?_⟩
    have hpl:∀ (i:Nat) (p:Nat×Nat),(match fs[i]? with
      |some f=>(BJ P (Field.type f)).map fun n=>(Field.offset f,n)
      |none=>none)=some p→(fs.map fun f=>(f.offset,(BJ P f.type).getD 0))[i]? = some p:=by
     intro i p hp
     split at hp
     ·rename_i f hf
      simp only[Aoy]at hp
      obtain⟨n,h1,rfl⟩:=hp
      simp[hf,h1]
     ·cases hp
    obtain⟨us,h1,h2,h3⟩:=AOS hr hpl parts.toList hb (K6 _ _ hok) (QB _ _ hok)
    refine⟨.agg us,?_,?_⟩
    ·have hp:=run_places (P:=P) w fs.toList (ATx hty hu)
     have h1':Instr.fill ((fs.map fun f=>(f.offset,(BJ P f.type).getD 0))[·]?) z.cells (parts.map fun p=>(p.1,ρc p.2)).toList=some us:=by rw[Ap9];exact h1
     simp only[execOp,ho,Instr.build,Sem.run_bind,BZ hi0 hz0,Result.andThen_ok,run_underlying hu]
     rw[ArY]
     simp only[Sem.run_map,hp,Result.andThen_ok]
     rw[show(List.map (fun f=>(f.offset,(BJ P f.type).getD 0)) fs.toList).toArray=fs.map fun f=>(f.offset,(BJ P f.type).getD 0)from by rw[← Ap9,AqV]]
     rw[h1']
     rfl
    ·unfold Rep
     exact⟨us,rfl,h2,h3⟩
   ·cases h
  ·rename_i n e hu
   split at h
   ·rename_i sz hs
    split at h
    ·rename_i cs' hb
     obtain⟨ie,hie,rfl⟩:=BE hs
     refine⟨_,_,h,fun R' k'=>by simp only[evalOp,hz,hu,hs,hb],AX fun w F m ρc o ho ht hi hr => ?_⟩
     obtain⟨us,h1,h2,h3⟩:=AOS hr (fun i p h=>h) parts.toList hb (K6 _ _ hok) (QB _ _ hok)
     refine⟨.agg us,?_,?_⟩
     ·have h1':Instr.fill (fun i=>some (i*ie.size,ie.size)) z.cells (parts.map fun p=>(p.1,ρc p.2)).toList=some us:=by rw[Ap9];exact h1
      simp only[execOp,ho,Instr.build,Sem.run_bind,BZ hi0 hz0,Result.andThen_ok,run_underlying hu,run_sizeOf hie,h1']
      rfl
     ·unfold Rep
      exact⟨us,rfl,h2,h3⟩
    ·cases h
   ·cases h
  ·cases h
 ·rename_i hz
  split at h
  ·rename_i cs fs hraw hu
   split at h
   ·rename_i cs' hb
    obtain⟨i,z,hi0,hz0,hone,hinf,rfl⟩:=AWv hraw hu
    refine⟨_,_,h,fun R' k'=>by simp only[evalOp,hz,hraw,hu,hb],AX fun w F m ρc o ho ht hi hr => ?_⟩
    have hpl:∀ (i:Nat) (p:Nat×Nat),(match fs[i]? with
      |some f=>(BJ P (Field.type f)).map fun n=>(Field.offset f,n)
      |none=>none)=some p→(fs.map fun f=>(f.offset,(BJ P f.type).getD 0))[i]? = some p:=by
     intro i p hp
     split at hp
     ·rename_i f hf
      simp only[Aoy]at hp
      obtain⟨n,h1,rfl⟩:=hp
      simp[hf,h1]
     ·cases hp
    obtain⟨us,h1,h2,h3⟩:=AOS hr hpl parts.toList hb (AKt (w:=w) (F:=F) (m:=m) (H:=H) z.cells.toList) hone
    refine⟨.agg us,?_,?_⟩
    ·have hp:=run_places (P:=P) w fs.toList hinf
     have h1':Instr.fill ((fs.map fun f=>(f.offset,(BJ P f.type).getD 0))[·]?) z.cells (parts.map fun p=>(p.1,ρc p.2)).toList=some us:=by rw[Ap9];exact h1
     simp only[execOp,ho,Instr.build,Sem.run_bind,BZ hi0 hz0,Result.andThen_ok,run_underlying hu]
     rw[ArY]
     simp only[Sem.run_map,hp,Result.andThen_ok]
     rw[show(List.map (fun f=>(f.offset,(BJ P f.type).getD 0)) fs.toList).toArray=fs.map fun f=>(f.offset,(BJ P f.type).getD 0)from by rw[← Ap9,AqV]]
     rw[h1']
     rfl
    ·unfold Rep
     exact⟨us,rfl,h2,h3⟩
   ·cases h
  ·cases h
theorem Ra{w:World}{F:Nat→Prop}{t:Ty}{x:t.den}{u:Value}(h:Bg w F t x u):Dat w F t x u.cells.toList:=by
 unfold Bg at h
 split at h
 ·obtain⟨vs,rfl,h⟩:=h;exact h
 ·have h1:=Dat.HU t h u (by simp)
  rw[Fc h1];exact h
theorem AOT{w:World}{F:Nat→Prop}{m:Mp}{H:List Ob}{fz:List Bool}(hi:HI w F m H fz){ρ:Operand→AV}{ρc:Operand→Value}(hr:∀ x,Rep w F m H (ρ x) (ρc x)){t:Ty}:
  ∀ (ps:List (Nat×Operand)) {xs xs':List t.den} {fr fr':List Nat} {us:Array Value},DR H t (ps.map fun p=>(p.1,ρ p.2)) xs fr=some (xs',fr')→rows (Dat w (DB F m H fr) t) xs us.toList →
   ∃ us':Array Value,Instr.fill (fun i=>some (i*t.size,t.size)) us (ps.map fun p=>(p.1,ρc p.2))=some us'∧rows (Dat w (DB F m H fr') t) xs' us'.toList∧xs'.length=xs.length:=by
 intro ps
 induction ps with
 |nil=>
  intro xs xs' fr fr' us h hrw
  simp only[AqU,DR,Aoh,ApC]at h
  obtain⟨rfl,rfl⟩:=h
  exact⟨us,rfl,hrw,rfl⟩
 |cons p ps ih=>
  intro xs xs' fr fr' us h hrw
  obtain⟨i,o⟩:=p
  simp only[ApH,DR]at h
  split at h
  ·rename_i x f hx hd
   simp only[Aok]at hd
   have hk:=fun(x:t.den) cs (h:Dat w (DB F m H (fr++f)) t x cs)=>Dat.length t h
   have hdx:Dat w (DB F m H (fr++f)) t x (ρc o).cells.toList:=(Ra (DG hi hx (hr o))).Ajm (fun i hi=>by simp[hi])
   have hrw':rows (Dat w (DB F m H (fr++f)) t) xs us.toList:=BM (fun x _ cs hx=>hx.Ajm (fun i hi=>by simp[hi])) hrw
   have hlen:=A5 hk hrw'
   have hl2:=hk _ _ hdx
   have hle:i*t.size+t.size≤us.size:=by
    rw[← Aoz,hlen]
    have:(i+1)*t.size≤xs.length*t.size:=Apd _ hd
    rwa [Api,AqN]at this
   have hfold:((ρc o).cells.zipIdx.foldl (fun cs (c,j)=>cs.setIfInBounds (i*t.size+j) c) us).toList=us.toList.take (i*t.size)++(ρc o).cells.toList++us.toList.drop (i*t.size+t.size):=by
    have:=Zc (i*t.size) (ρc o).cells.toList 0 us (by rw[hl2];omega)
    rw[← Array.foldl_toList,Array.toList_zipIdx,this,Ap5,hl2]
   obtain⟨us',e1,e2,e3⟩:=ih (us:=(ρc o).cells.zipIdx.foldl (fun cs (c,j)=>cs.setIfInBounds (i*t.size+j) c) us) h (by rw[hfold];exact AQz hk hrw' hd hdx)
   refine⟨us',?_,e2,by rw[e3,Apf]⟩
   simp only[ApH,Instr.fill]
   rw[Aor (by
    simp only[Aoz]at hl2
    simp[hl2];omega)]
   exact e1
  ·cases h
theorem FE{w:World}{F:Nat→Prop}{t:Ty}{z:List Value}(hz:Dat w F t t.zero z)(n:Nat):rows (Dat w F t) (List.replicate n t.zero) (List.replicate n z).flatten:=by
 induction n with
 |zero=>rfl
 |succ n ih=>exact⟨z,_,by simp[List.replicate_succ],hz,ih⟩
theorem Cm(z:Array Value):∀ (n:Nat),((Array.range (n*z.size)).map (z[· % z.size]!)).toList=(List.replicate n z.toList).flatten:=by
 intro n
 rw[Ap9,Array.toList_range]
 induction n with
 |zero=>simp
 |succ n ih=>
  rw[Api,AqN,List.range_add,AqH,ih,List.replicate_succ']
  simp only[List.flatten_append,Aqo,List.flatten_nil,Apw,List.append_cancel_left_eq,List.map_map]
  apply Ars
  ·simp
  ·intro i h1 h2
   simp only[Apl,Ao0]at h1
   simp[Nat.add_mod,Apt h1,h1]
theorem Bp{T:TypeId}{e:TypeId}{t:Ty}(h:sliceAt P T=some (e,t)):P.underlying T=some (.slice e)∧ALI P e=some t∧0<t.size:=by
 unfold sliceAt at h
 split at h
 ·rename_i e' hu
  split at h
  ·rename_i x hx
   split at h
   ·rename_i hd
    simp only[Aoh,ApC]at h
    obtain⟨rfl,rfl⟩:=h
    exact⟨hu,hx,by simpa using hd⟩
   ·cases h
  ·cases h
 ·cases h
theorem FP{w:World}{F:Nat→Prop}{m:Mp}{H:List Ob}{fz:List Bool}(hi:HI w F m H fz){slot:Nat}(hf:At H fz slot=true){T:TypeId}{t:Ty}(ht:0<t.size){xs:List t.den}{vs:Array Value}{cap:Nat}
  {w':World} (hb:w'.heap[w.heap.size]? = some (.cells vs T (0,0))) (h1:w'.os=w.os) (h2:w'.tape=w.tape) (h3:w'.output=w.output) (hsz:w.heap.size≤w'.heap.size) (hk:∀ b,b<w.heap.size→w'.heap[b]? = w.heap[b]?)
  (hcap:xs.length≤cap) (hmax:cap≤maxLen) (hvs:vs.size=cap*t.size) {row:List Value} (hrow:rows (Dat w F t) xs row) (htake:vs.toList.take row.length=row) :
  ∃ m',Ap w F m H fz w' F m' (H.set slot (.arr T t xs)) fz∧Rep w' F m' (H.set slot (.arr T t xs)) (.own slot) (.slice (some ⟨w.heap.size,0,none⟩) xs.length cap):=by
 have hc:∀ b,F b→w'.heap[b]? = w.heap[b]? := fun b hF=>hk b (hi.lt b hF)
 have hg:=Ap.new (w':=w') hi hf (ob:=.arr T t xs) trivial (some (w.heap.size,cap)) h1 h2 h3 hsz hk (fun b c h=>by cases h;exact Aop _)
  (fun _=>⟨ht,vs,row,hb,hcap,hmax,hvs,BM (fun x _ cs hx=>hx.mono hc (fun _ h=>h) t) hrow,htake⟩)
 refine⟨_,hg,?_⟩
 unfold Rep
 have hlt:=Al (BN hf).1
 rw[Aw hlt,Aq]
 rfl
theorem H8{w:World}{T e:TypeId}{len:Nat}{t':Ty}{parts:Array (Nat×Value)}{i:TypeInfo}{z:Value}{us:Array Value}(hu:P.underlying T=some (.slice e))(hi0:P.info? e=some i)(hz0:i.zero=some z)
 (hsz:i.size=t'.size) (hd:len*t'.size≤16777216)
 (e1':Instr.fill (fun i=>some (i*t'.size,t'.size)) ((Array.range (len*t'.size)).map (z.cells[· % z.cells.size]!)) parts.toList=some us):(Instr.buildSlice T len parts).run P w = .ok (.slice (some ⟨w.heap.size,0,none⟩) len len) (w.alloc (.cells us e)):=by
 unfold Instr.buildSlice
 simp only[Sem.run_bind,run_underlying hu,Result.andThen_ok,run_sizeOf hi0,hsz]
 rw[Aor (by omega)]
 by_cases h0:len*t'.size=0
 ·have e2:Instr.fill (fun i=>some (i*t'.size,t'.size)) #[] parts.toList=some us:=by
   rw[h0,Array.range_zero',Array.map_empty]at e1';exact e1'
  simp only[h0]
  simp[e2,newRow,Array.range]
 ·rw[Aor h0]
  simp[BZ hi0 hz0,e1',newRow]
theorem Xu(T:TypeId)(len:Nat)(parts:Array (Nat×Operand)):Claim P E (.buildSlice T len parts):=by
 intro R ty ρ H fz slot k r h
 simp only[evalOp]at h
 split at h
 ·rename_i e t hsl
  split at h
  ·rename_i zz hz
   split at h
   ·rename_i hd
    split at h
    ·rename_i xs fr hp
     split at h
     ·rename_i hf
      refine⟨_,_,h,fun R' k'=>by simp only[evalOp,hsl,hz,hd,hp,hf],A4 fun w F m ρc o ho ht hi hr => ?_⟩
      obtain⟨hu,hty,hpos⟩:=Bp hsl
      obtain⟨t',cs'⟩:=zz
      obtain⟨hty',hcs',i,z,hi0,hz0,hok,hsz,hza⟩:=Bl hz
      subst hcs'
      have:t'=t:=by rw[hty]at hty';exact(Apr hty').symm
      subst this
      simp only[Aok]at hd
      have hzd:=Bb (w:=w) (F:=F) t' _ hok
      have hzl:z.cells.size=t'.size:=by rw[← Aoz];exact Dat.length t' hzd
      have hr0:rows (Dat w (DB F m H []) t') (List.replicate len t'.zero) ((Array.range (len*t'.size)).map (z.cells[· % z.cells.size]!)).toList:=by
       have:=Cm z.cells len
       rw[hzl]at this
       rw[hzl,this]
       exact FE hzd.frz len
      obtain⟨us,e1,e2,e3⟩:=AOT hi hr parts.toList hp hr0
      have hgf:=Ap.freeze hi fr
      have hlen:=A5 (fun x cs (h:Dat w (DB F m H fr) t' x cs)=>Dat.length t' h) e2
      have hxl:xs.length=len:=by rw[e3,Apv]
      have hbig:len≤16777216:=Ap0 (Nat.le_mul_of_pos_right len hpos) hd
      obtain⟨m',hg,hrep⟩:=FP hgf.2 hf (w':=w.alloc (.cells us e)) hpos (heap_alloc_new w _) rfl rfl rfl (by simp) (fun b hb=>Below.heap_alloc w _ b hb) (cap:=len) (by omega) (by simp only[maxLen];omega)
       (by rw[← Aoz,hlen,hxl]) e2 (by rw[hlen,Apq (by omega)])
      refine⟨_,_,_,m',?_,hgf.trans hg,hrep⟩
      have e1':Instr.fill (fun i=>some (i*t'.size,t'.size)) ((Array.range (len*t'.size)).map (z.cells[· % z.cells.size]!)) (parts.map fun p=>(p.1,ρc p.2)).toList=some us:=by rw[Ap9];exact e1
      rw[hxl]
      have:=H8 (w:=w) hu hi0 hz0 hsz hd e1'
      simp[execOp,ho,this]
     ·cases h
    ·cases h
   ·cases h
  ·cases h
 ·rename_i hsl
  split at h
  ·rename_i e q hce hlen hps
   have hq:=hps
   rw[List.map_eq_singleton_iff]at hq
   obtain⟨p,hps',hqp⟩:=hq
   subst hqp
   dsimp only at h
   split at h
   ·rename_i tgt i sub hx
    split at h
    ·rename_i hc
     split at h
     ·rename_i hf
      refine⟨_,_,h,fun R' k'=>by simp only[evalOp,hsl,hce,hlen,hps,hx,hc,hf],A4 fun w F m ρc o ho ht hi hr => ?_⟩
      simp only[Aol,Aok]at hc
      obtain⟨hp0,rfl,hlive⟩:=hc
      simp only[Aok]at hlen
      subst hlen
      obtain⟨hu,ii,z,hi0,hz0,hsz,hzs,hby⟩:=Zi hce
      have hrp:=hr p.2
      rw[hx]at hrp
      have hone:(ρc p.2).oneCell'=true:=by
       have h2:=hrp
       unfold Rep at h2
       cases hto:H[tgt]? with
       |none=>rw[hto]at h2;exact h2.elim
       |some o=>rw[hto]at h2;exact Ch.one h2
      have hpt:(ρc p.2).cells = #[ρc p.2]:=by rw[← AqV (xs:=(ρc p.2).cells),Fc hone]
      have e1':Instr.fill (fun i=>some (i*Ty.bool.size,Ty.bool.size)) ((Array.range (1*Ty.bool.size)).map (z.cells[· % z.cells.size]!)) (parts.map fun p=>(p.1,ρc p.2)).toList=some #[ρc p.2]:=by
       rw[Ap9,hps']
       simp only[ApH,AqU,hp0]
       have key:∀ (f:Fin 1→Value) (v:Value),(Array.ofFn f).setIfInBounds 0 v = #[v]:=by
        intro f v
        apply Array.ext
        ·simp
        ·intro j h1 h2
         have:j=0:=by simp at h2;omega
         subst this
         simp
       simp[Instr.fill,hpt,Ty.size,Array.range,key]
      have hrl:Ae w F m H (Fv tgt [Int.ofNat i]) [ρc p.2]:=by
       show Ae w F m H [AV.eptr tgt (Int.ofNat i).toNat 0] [ρc p.2]
       unfold Ae
       exact⟨_,_,rfl,hrp,by unfold Ae;rfl⟩
      obtain⟨m',hg,hrep⟩:=TB hi hf (w':=w.alloc (.cells #[ρc p.2] e)) (heap_alloc_new w _) rfl rfl rfl (by simp) (fun b hb=>Below.heap_alloc w _ b hb) (cap:=1) (by simp) (by simp only[maxLen];omega) (by simp) hrl (by simpa using hone) (by simp)
      refine⟨_,_,_,m',?_,hg,hrep⟩
      have:=H8 (w:=w) (T:=T) (t':=.bool) hu hi0 hz0 (by rw[hsz];rfl) (by simp[Ty.size]) e1'
      simp[execOp,ho,this]
     ·cases h
    ·cases h
   ·cases h
  ·cases h
end
end Go.Pev
end
section
namespace Go.Pev
open Go.RowKit
section
variable {P:Program} {E:Env}
theorem DF{w:World}{b:Nat}{vs:Array Value}{T:TypeId}{f:Nat×Nat}(h:w.heap[b]? = some (.cells vs T f))(i:Nat):w.cell? ⟨b,i,none⟩=vs[i]? := by
 simp[World.cell?,h]
theorem Tf{w:World}{F:Nat→Prop}{m:Mp}{H:List Ob}{fz:List Bool}(hi:HI w F m H fz){id:Nat}{cs:List AV}(ho:H[id]? = some (.box cs)){off:Nat}{v:Value}(hr:Rep w F m H (.ptr id off) v):
  ∃ b c vs T,m id=some (b,c)∧v = .pointer (some ⟨b,off,none⟩)∧w.heap[b]? = some (.cells vs T (0,0))∧Ae w F m H cs vs.toList∧∀ u∈vs.toList,u.oneCell'=true:=by
 obtain⟨b,c,vs,T,e1,e2,e3,e4⟩:=hi.obj id _ ho
 unfold Rep HF at hr
 rw[ho]at hr
 obtain⟨b',c',e5,e6⟩:=hr
 rw[e1]at e5;cases e5
 exact⟨b,c,vs,T,e1,e6,e2,e3,e4⟩
theorem ML{w:World}{F:Nat→Prop}{m:Mp}{H:List Ob}{fz:List Bool}(hi:HI w F m H fz){id:Nat}{T:TypeId}{t:Ty}{xs:List t.den}(ho:H[id]? = some (.arr T t xs)){i sub:Nat}{v:Value}(hr:Rep w F m H (.eptr id i sub) v):
  ∃ b cap vs row,m id=some (b,cap)∧v = .pointer (some ⟨b,i*t.size+sub,none⟩)∧i<xs.length∧w.heap[b]? = some (.cells vs T (0,0))∧xs.length≤cap∧cap≤maxLen∧vs.size=cap*t.size∧rows (Dat w F t) xs row∧vs.toList.take row.length=row∧0<t.size:=by
 obtain⟨h0,h⟩:=hi.obj id _ ho
 unfold Rep Ch at hr
 rw[ho]at hr
 obtain⟨hlt,b,c,e5,e6⟩:=hr
 rw[e5]at h
 obtain⟨vs,row,e1,e2,e3,e4,e7,e8⟩:=h
 exact⟨b,c,vs,row,e5,e6,hlt,e1,e2,e3,e4,e7,e8,h0⟩
theorem AZp(T:TypeId)(x:Operand):Claim P E (.load T x):=by
 intro R ty ρ H fz slot k r h
 simp only[evalOp]at h
 split at h
 ·rename_i n ag hs ha
  split at h
  ·rename_i id off hx
   split at h
   ·rename_i cs ho
    split at h
    ·rename_i v hl
     refine⟨_,_,h,fun R' k'=>by simp only[evalOp,hs,ha,hx,ho,hl],AX fun w F m ρc o hop hty hi hr => ?_⟩
     obtain⟨b,c,vs,T',e1,e2,e3,e4,e5⟩:=Tf hi ho (hx▸hr x)
     obtain⟨u,h1,h2⟩:=Ck (P:=P) hs ha hl (E9 e4 off) (ad:=⟨b,off,none⟩) (fun u hu=>e5 u (AqG hu)) (fun j u hu=>by
      rw[B7,DF e3]
      rw[Apk]at hu
      simpa using hu)
     exact⟨u,by simp[execOp,hop,Instr.loadAt,e2,Instr.sureAddr,h1],h2⟩
    ·cases h
   ·cases h
  ·rename_i cs hx
   split at h
   ·rename_i v hl
    refine⟨_,_,h,fun R' k'=>by simp only[evalOp,hs,ha,hx,hl],AX fun w F m ρc o hop hty hi hr => ?_⟩
    have hrx:=hr x
    rw[hx]at hrx
    unfold Rep at hrx
    obtain⟨ad,us,e1,e2,e3,e4,e5⟩:=hrx
    obtain⟨u,h1,h2⟩:=Ck (P:=P) hs ha hl e3 (ad:=ad) e4 e5
    exact⟨u,by simp[execOp,hop,Instr.loadAt,e1,Instr.sureAddr,h1],h2⟩
   ·cases h
  ·rename_i id i sub hx
   split at h
   ·rename_i T' t xs ho
    split at h
    ·rename_i v hl
     refine⟨_,_,h,fun R' k'=>by simp only[evalOp,hs,ha,hx,ho,hl],AX fun w F m ρc o hop hty hi hr => ?_⟩
     obtain⟨b,cap,vs,row,e1,e2,e3,e4,e5,e6,e7,e8,e9,e10⟩:=ML hi ho (hx▸hr x)
     have hk:=fun(x:t.den) cs (h:Dat w F t x cs)=>Dat.length t h
     have hget:xs[i]? = some (Ac xs i t.zero):=by
      unfold Ac
      rw[Aon e3,Aoj,Aon e3];rfl
     have hd:=KV hk e8 hget
     have hre:=IX (m:=m) (H:=H) t hd
     obtain⟨u,h1,h2⟩:=Ck (P:=P) hs ha hl (E9 hre sub) (ad:=⟨b,i*t.size+sub,none⟩) (fun u hu=>Dat.HU t hd u (AqG hu)) (fun j u hu=>by
      rw[B7,DF e4]
      rw[Apk,ApU]at hu
      split at hu
      ·rw[Apk]at hu
       have:=Cd e9 hu
       rw[← this];congr 1;omega
      ·cases hu)
     exact⟨u,by simp[execOp,hop,Instr.loadAt,e2,Instr.sureAddr,h1],h2⟩
    ·cases h
   ·rename_i T' tgt is ho
    split at h
    ·rename_i hc
     refine⟨_,_,h,fun R' k'=>by simp only[evalOp,hs,ha,hx,ho,hc],AX fun w F m ρc o hop hty hi hr => ?_⟩
     simp only[Aol,AqL,AqA]at hc
     obtain⟨rfl,rfl,rfl⟩:=hc
     have hrx:=hr x
     rw[hx]at hrx
     unfold Rep Ch at hrx
     rw[ho]at hrx
     obtain⟨hlt,b,c,hm,e2⟩:=hrx
     rw[Ap5]at e2
     have hob:=hi.obj id _ ho
     rw[hm]at hob
     obtain⟨vs,us,o1,o2,o3,o4,o5,o6,o7⟩:=hob
     have hget:(Fv tgt is)[i]? = some (.eptr tgt (AO (Ac is i 0)) 0):=by
      unfold Ac AO Fv
      rw[ApV,Aon hlt,Aoj,Aon hlt];rfl
     obtain⟨u,hu,hru⟩:=CN o5 hget
     have hv:=Cd o7 hu
     obtain⟨u',h1,h2⟩:=Ck (P:=P) (T:=T) (n:=1) (ag:=false) (cs:=[.eptr tgt (AO (Ac is i 0)) 0]) (us:=[u]) (v:=.eptr tgt (AO (Ac is i 0)) 0) hs ha rfl (by unfold Ae;exact⟨_,_,rfl,hru,by unfold Ae;rfl⟩) (ad:=⟨b,i,none⟩) (fun x hx=>by
      rw[ApB]at hx;subst hx;exact o6 _ (Aox hu)) (fun j x hj=>by
      cases j with
      |zero=>
       rw[B7,DF o1]
       simp only[ApP,Aoh]at hj
       subst hj
       exact hv
      |succ j=>simp at hj)
     exact⟨u',by simp[execOp,hop,Instr.loadAt,e2,Instr.sureAddr,h1],h2⟩
    ·cases h
   ·rename_i T' e t xs ver ho
    split at h
    ·rename_i hc
     refine⟨_,_,h,fun R' k'=>by simp only[evalOp,hs,ha,hx,ho,hc],AX fun w F m ρc o hop hty hi hr => ?_⟩
     simp only[Aol,AqL,AqA]at hc
     obtain⟨rfl,rfl,rfl⟩:=hc
     have hrx:=hr x
     rw[hx]at hrx
     unfold Rep Ch at hrx
     rw[ho]at hrx
     obtain⟨hlt,b,c,hm,e2⟩:=hrx
     rw[Ap5]at e2
     obtain⟨b',cap,u,q1,⟨vs,q2,q3⟩,q4⟩:=AQ2 hi ho hlt
     rw[hm]at q1;cases q1
     obtain⟨u',h1,h2⟩:=Ck (P:=P) (T:=T) (n:=1) (ag:=false) (cs:=[.rowp id i ver]) (us:=[u]) (v:=.rowp id i ver) hs ha rfl (by unfold Ae;exact⟨_,_,rfl,q4,by unfold Ae;rfl⟩) (ad:=⟨b,i,none⟩) (fun x hx=>by
      rw[ApB]at hx;subst hx
      have:=q4
      unfold Rep at this
      rw[ho]at this
      exact this.one) (fun j x hj=>by
      cases j with
      |zero=>
       rw[B7,DF q2]
       simp only[ApP,Aoh]at hj
       subst hj
       simpa using q3
      |succ j=>simp at hj)
     exact⟨u',by simp[execOp,hop,Instr.loadAt,e2,Instr.sureAddr,h1],h2⟩
    ·cases h
   ·cases h
  ·cases h
 ·cases h
theorem Gt{w:World}{b:Nat}{cs:Array Value}:(w.setRow b cs).os=w.os∧(w.setRow b cs).tape=w.tape∧(w.setRow b cs).output=w.output∧(w.setRow b cs).heap.size=w.heap.size∧∀ k,k≠b→(w.setRow b cs).heap[k]? = w.heap[k]? :=
 ⟨rfl,rfl,rfl,setRow_size w b cs,fun k hk=>setRow_other w b k cs hk⟩
theorem AeD{H:List Ob}{fz:List Bool}{id:Nat}{cs:List AV}(h:H[id]? = some (.box cs)):owned H fz id:=by simp only[owned,Bn];rw[h];trivial
theorem CC{H:List Ob}{fz:List Bool}{id:Nat}{T:TypeId}{t:Ty}{xs:List t.den}(h:H[id]? = some (.arr T t xs))(hf:Aj fz id=true):owned H fz id:=by
 simp only[owned,Bn];rw[h];simpa [Aj]using hf
theorem E3{H:List Ob}{fz:List Bool}{id:Nat}{a b:Ty}{es:List (a.den×b.den)}(h:H[id]? = some (.map a b es)):owned H fz id:=by simp only[owned,Bn];rw[h];trivial
theorem APC{w:World}{F:Nat→Prop}{m:Mp}{H:List Ob}{fz:List Bool}(hi:HI w F m H fz){id:Nat}{T:TypeId}{t:Ty}{xs:List t.den}(ho:H[id]? = some (.arr T t xs))(hf:Aj fz id=true)
  {b cap:Nat} (hm:m id=some (b,cap)) {i:Nat} (hlt:i<xs.length) {y:t.den} {ds:List Value} (hy:Dat w F t y ds) {vs:Array Value} {row:List Value}
  (e1:w.heap[b]? = some (.cells vs T (0,0))) (e2:xs.length≤cap) (e3:cap≤maxLen) (e4:vs.size=cap*t.size) (e7:rows (Dat w F t) xs row) (e8:vs.toList.take row.length=row) (h0:0<t.size) :
  Ap w F m H fz (w.setRow b (vs.toList.take (i*t.size)++ds++vs.toList.drop (i*t.size+t.size)).toArray) F m (H.set id (.arr T t (BB xs i y))) fz:=by
 obtain⟨r1,r2,r3,r4,r5⟩:=Gt (w:=w) (b:=b) (cs:=(vs.toList.take (i*t.size)++ds++vs.toList.drop (i*t.size+t.size)).toArray)
 have hk:=fun(x:t.den) cs (h:Dat w F t x cs)=>Dat.length t h
 have hlen:=A5 hk e7
 have hdl:=hk _ _ hy
 have hle:i*t.size+t.size≤xs.length*t.size:=by
  have:(i+1)*t.size≤xs.length*t.size:=Apd _ hlt
  rwa [Api,AqN]at this
 have hle2:xs.length*t.size≤cap*t.size:=Apd _ e2
 have hvl:vs.toList.length=cap*t.size:=by rw[Aoz,e4]
 refine Ap.set hi (CC ho hf) hm ho ⟨rfl,by simp[BB]⟩ r1 r2 r3 r4 r5 fun hmono => ?_
 refine⟨h0,?_⟩
 rw[hm]
 refine⟨_,row.take (i*t.size)++ds++row.drop (i*t.size+t.size),setRow_heap w b vs _ T _ e1,by simpa [BB]using e2,e3,?_,?_,?_⟩
 ·simp only[AqB,Aos,Ao8,ApW,hvl,hdl];omega
 ·have hcell:∀ k,F k→(w.setRow b (vs.toList.take (i*t.size)++ds++vs.toList.drop (i*t.size+t.size)).toArray).heap[k]? = w.heap[k]? := fun k ha=>
   r5 k (by rintro rfl;exact hi.off id _ cap (CC ho hf) hm ha)
  exact BM (fun x _ cs hx=>hx.mono hcell (fun _ h=>h) t) (AQz hk e7 hlt hy)
 ·have hrl:(row.take (i*t.size)++ds++row.drop (i*t.size+t.size)).length=row.length:=by
   simp only[Aos,Ao8,ApW,hdl];omega
  rw[hrl]
  show List.take row.length (vs.toList.take (i*t.size)++ds++vs.toList.drop (i*t.size+t.size))=_
  have h1:row.take (i*t.size)=vs.toList.take (i*t.size):=by
   rw[← e8,Aq7,Aps (by omega)]
  have h2:row.drop (i*t.size+t.size)=(vs.toList.drop (i*t.size+t.size)).take (row.length-(i*t.size+t.size)):=by
   conv=>lhs;rw[← e8]
   rw[List.drop_take]
  rw[h1,h2,Aqf,Apq (by simp only[Aos,Ao8,hvl,hdl];omega)]
  congr 2
  simp only[Aos,Ao8,hvl,hdl];omega
theorem nul?_some{t e:Ty}(h:t.nul? = some e):t = .nul e:=by
 cases t<;>simp only[Ty.nul?]at h<;>first|(cases h;done)|skip
 cases h;rfl
theorem AQ1{w:World}{F:Nat→Prop}{e:Ty}:∀ {xs:List Unit} {cs:List Value},rows (Dat w F (.nul e)) xs cs→rows (Dat w F (.slice e)) (D6 xs.length []) cs:=by
 intro xs
 induction xs with
 |nil=>exact fun h=>h
 |cons x xs ih=>
  rintro cs ⟨c1,c2,rfl,h1,h2⟩
  cases h1
  exact⟨_,c2,rfl,⟨none,0,rfl,Aop _,fun h=>absurd rfl h⟩,ih h2⟩
theorem Amh{w:World}{F:Nat→Prop}{m:Mp}{H:List Ob}{fz:List Bool}(hi:HI w F m H fz){id:Nat}{T:TypeId}{e:Ty}{xs:List Unit}(ho:H[id]? = some (.arr T (.nul e) xs))(hf:Aj fz id=true)
  {b cap:Nat} (hm:m id=some (b,cap)) {vs:Array Value} {row:List Value}
  (e1:w.heap[b]? = some (.cells vs T (0,0))) (e2:xs.length≤cap) (e3:cap≤maxLen) (e4:vs.size=cap*1) (e7:rows (Dat w F (.nul e)) xs row) (e8:vs.toList.take row.length=row) :
  Ap w F m H fz w F m (H.set id (.arr T (.slice e) (D6 xs.length []))) fz:=by
 refine Ap.set hi (CC ho hf) hm ho ⟨rfl,by simp[D6]⟩ rfl rfl rfl rfl (fun _ _=>rfl) fun _=>⟨Nat.one_pos,?_⟩
 rw[hm]
 exact⟨vs,row,e1,by simpa [D6]using e2,e3,e4,AQ1 e7,e8⟩
theorem AUK(T:TypeId)(x y:Operand):Claim P E (.store T x y):=by
 intro R ty ρ H fz slot k r h
 simp only[evalOp]at h
 split at h
 ·rename_i n vs hs hv
  split at h
  ·cases h
  ·rename_i hd
   simp only[Aok]at hd
   split at h
   ·rename_i id off hx
    split at h
    ·rename_i cs ho
     split at h
     ·rename_i cs' hp
      refine⟨_,_,h,fun R' k'=>by simp only[evalOp,hs,hv,hd,Aow,hx,ho,hp],D4 fun w F m ρc o hop hty hi hr => ?_⟩
      obtain⟨b,c,us,T',e1,e2,e3,e4,e5⟩:=Tf hi ho (hx▸hr x)
      have hry:=cells?_ok hv (hr y)
      have h1y:=cells?_one hv (hr y)
      obtain⟨hle,hr'⟩:=Jp hp e4 hry
      have hyl:=As hry
      have hul:=As e4
      have hsz:(ρc y).cells.size=n:=by rw[← Aoz,hyl,hd]
      have hst:=DJ (P:=P) hs e3 (off:=off) hsz h1y (by rw[← Aoz,hul];omega)
      obtain⟨r1,r2,r3,r4,r5⟩:=Gt (w:=w) (b:=b) (cs:=(us.toList.take off++(ρc y).cells.toList++us.toList.drop (off+n)).toArray)
      have hg:=Ap.set hi (AeD ho) e1 ho (o':=.box cs') trivial r1 r2 r3 r4 r5 fun hmono=>⟨b,c,_,T',e1,setRow_heap w b us _ T' _ e3,?_,?_⟩
      ·exact⟨_,F,m,by simp[execOp,hop,Instr.storeAt,e2,Instr.sureAddr,hst],hg⟩
      ·rw[hd]at hr'
       exact DV (As hr') fun i c v hc hv=>by
        obtain⟨v',hv',hr''⟩:=CN hr' hc
        have:(us.toList.take off++(ρc y).cells.toList++us.toList.drop (off+n))[i]? = some v:=hv
        rw[this]at hv';cases hv'
        exact hmono hr''
      ·intro u hu
       have hu:u∈us.toList.take off++(ρc y).cells.toList++us.toList.drop (off+n):=hu
       simp only[Aom]at hu
       rcases hu with(hu|hu)|hu
       ·exact e5 u (Aq4 hu)
       ·exact h1y u hu
       ·exact e5 u (AqG hu)
     ·cases h
    ·cases h
   ·rename_i id i sub hx
    split at h
    ·rename_i T' t xs ho
     split at h
     ·rename_i e hnul
      have htn:=nul?_some hnul
      subst htn
      split at h
      ·rename_i hc
       split at h
       ·rename_i z fr hz
        split at h
        ·rename_i hf
         refine⟨_,_,h,fun R' k'=>by simp only[evalOp,hs,hv,hd,Aow,hx,ho,hnul,hc,hz,hf],D4 fun w F m ρc o hop hty hi hr => ?_⟩
         simp only[Aol,AqL]at hc
         obtain⟨rfl,rfl⟩:=hc
         have hgf:=Ap.freeze hi fr
         have hrx:=hgf.1.rep hi (hx▸hr x)
         obtain⟨b,cap,us,row,e1,e2,e3,e4,e5,e6,e7,e8,e9,e10⟩:=ML hgf.2 ho hrx
         have hg0:=Amh hgf.2 ho hf e1 e4 e5 e6 e7 e8 e9
         have hyd:=Ra (DG hi hz (hr y))
         have hyl:=Dat.length (.slice e) hyd
         have hst:=DJ (P:=P) hs e4 (off:=i*1) (u:=ρc y) (by rw[← Aoz,hyl];rfl) (cells?_one hv (hr y)) (by
          rw[e7]
          have:(i+1)*1≤cap*1:=Apd _ (by omega)
          rwa [Api,AqN]at this)
         have hlt:=Al ho
         have hg:=APC (t:=.slice e) hg0.2 (Aw hlt) hf e1 (by simpa [D6]using e3) (hg0.1.dat hgf.2 (t:=.slice e) hyd) e4 (by simpa [D6]using e5) e6 e7 (AQ1 e8) e9 e10
         rw[List.set_set]at hg
         have e2':ρc x = .pointer (some ⟨b,i*(Ty.slice e).size,none⟩):=e2
         refine⟨_,_,m,(?_:(execOp ρc o).run P w = .ok _ _),(hgf.trans hg0).trans hg⟩
         have hst':(storeVar T ⟨b,i*(Ty.slice e).size,none⟩ (ρc y)).run P w = .ok () (w.setRow b (us.toList.take (i*(Ty.slice e).size)++(ρc y).cells.toList++us.toList.drop (i*(Ty.slice e).size+(Ty.slice e).size)).toArray):=hst
         simp[execOp,hop,Instr.storeAt,e2',Instr.sureAddr,hst']
        ·cases h
       ·cases h
      ·cases h
     rename_i hnul
     split at h
     ·rename_i hc
      split at h
      ·rename_i z fr hz
       split at h
       ·rename_i hf
        refine⟨_,_,h,fun R' k'=>by simp only[evalOp,hs,hv,hd,Aow,hx,ho,hnul,hc,hz,hf],D4 fun w F m ρc o hop hty hi hr => ?_⟩
        simp only[Aol,AqL]at hc
        obtain⟨rfl,rfl⟩:=hc
        have hgf:=Ap.freeze hi fr
        have hrx:=hgf.1.rep hi (hx▸hr x)
        obtain⟨b,cap,us,row,e1,e2,e3,e4,e5,e6,e7,e8,e9,e10⟩:=ML hgf.2 ho hrx
        have hyd:=Ra (DG hi hz (hr y))
        have hyl:=Dat.length t hyd
        have hst:=DJ (P:=P) hs e4 (off:=i*t.size) (u:=ρc y) (by rw[← Aoz,hyl]) (cells?_one hv (hr y)) (by
         rw[e7]
         have:(i+1)*t.size≤cap*t.size:=Apd _ (by omega)
         rwa [Api,AqN]at this)
        have hg:=APC hgf.2 ho hf e1 e3 hyd e4 e5 e6 e7 e8 e9 e10
        exact⟨_,_,m,by simp[execOp,hop,Instr.storeAt,e2,Instr.sureAddr,hst],hgf.trans hg⟩
       ·cases h
      ·cases h
     ·rename_i hc
      split at h
      ·cases h
      ·rename_i cs' hp
       split at h
       ·rename_i z fr hz
        split at h
        ·rename_i hf
         refine⟨_,_,h,fun R' k'=>by simp only[evalOp,hs,hv,hd,Aow,hx,ho,hnul,hc,hp,hz,hf],D4 fun w F m ρc o hop hty hi hr => ?_⟩
         have hgf:=Ap.freeze hi fr
         obtain⟨b,cap,us,row,e1,e2,e3,e4,e5,e6,e7,e8,e9,e10⟩:=ML hi ho (hx▸hr x)
         have hk:=fun(x:t.den) cs (h:Dat w F t x cs)=>Dat.length t h
         have hget:xs[i]? = some (Ac xs i t.zero):=by
          unfold Ac
          rw[Aon e3,Aoj,Aon e3];rfl
         have hdi:=KV hk e8 hget
         have hre:=IX (m:=m) (H:=H) t hdi
         have hry:=cells?_ok hv (hr y)
         have h1y:=cells?_one hv (hr y)
         obtain⟨hle,hr'⟩:=Jp hp hre hry
         have hyl:=As hry
         have hel:=As hre
         have hrl:=A5 hk e8
         have hcl:=hk _ _ hdi
         have hi1:i*t.size+t.size≤xs.length*t.size:=by
          have:(i+1)*t.size≤xs.length*t.size:=Apd _ e3
          rwa [Api,AqN]at this
         have hi2:xs.length*t.size≤cap*t.size:=Apd _ e5
         rw[hd]at hle hr'
         have hst:=DJ (P:=P) hs e4 (off:=i*t.size+sub) (u:=ρc y) (by rw[← Aoz,hyl,hd]) h1y (by omega)
         obtain⟨u1,u2,q1,q2,q3⟩:=AFI hi t hz hr'
         unfold Ae at q3;subst q3
         rw[Apw]at q1;subst q1
         have hg:=APC hgf.2 ho hf e1 e3 q2 e4 e5 e6 e7 (BM (fun x _ cs hx=>hx.frz) e8) e9 e10
         have hX:(row.drop (i*t.size)).take t.size=(us.toList.drop (i*t.size)).take t.size:=by
          conv=>lhs;rw[← e9]
          rw[List.drop_take,Aq7,Aps (by omega)]
         have hEq:us.toList.take (i*t.size)++(((row.drop (i*t.size)).take t.size).take sub++(ρc y).cells.toList++((row.drop (i*t.size)).take t.size).drop (sub+n))++us.toList.drop (i*t.size+t.size) =
           us.toList.take (i*t.size+sub)++(ρc y).cells.toList++us.toList.drop (i*t.size+sub+n):=by
          rw[hX,List.take_add,Aq7,Aps (by omega)]
          have:((us.toList.drop (i*t.size)).take t.size).drop (sub+n)++us.toList.drop (i*t.size+t.size)=us.toList.drop (i*t.size+sub+n):=by
           rw[← Aql (i:=t.size),ArU,← Aql (i:=sub+n)]
           conv=>rhs;rw[← Ape t.size (us.toList.drop (i*t.size))]
           rw[List.drop_append_of_le_length (by rw[Ao8,ApW,Aoz];omega)]
          rw[← this];simp
         rw[hEq]at hg
         exact⟨_,_,m,by simp[execOp,hop,Instr.storeAt,e2,Instr.sureAddr,hst],hgf.trans hg⟩
        ·cases h
       ·cases h
    ·rename_i T' e t xs ver i' ho
     split at h
     ·rename_i id' j ver' hy hc
      split at h
      ·rename_i hd2
       split at h
       ·rename_i hq
        refine⟨_,_,h,fun R' k'=>by
         have hv':=hv
         rw[hy]at hv'
         simp only[evalOp,hs,hv',hd,Aow,hx,ho,hy,hc,hd2,hq],D4 fun w F m ρc o hop hty hi hr => ?_⟩
        simp only[Aol,AqL,Aok,B4]at hc hd2 hq
        obtain⟨⟨rfl,rfl⟩,hun⟩:=hc
        obtain⟨rfl,rfl⟩:=hd2
        obtain⟨hq1,hq2⟩:=hq
        have e1:i=i':=by omega
        have e2:j=i':=by omega
        subst e1;subst e2
        have hun':fz.getD id false=false:=by unfold Aj at hun;simpa using hun
        have hrx:=hr x
        rw[hx]at hrx
        unfold Rep Ch at hrx
        rw[ho]at hrx
        obtain⟨hlt,b,c,hm,e2⟩:=hrx
        rw[Ap5]at e2
        have hry:=hr y
        rw[hy]at hry
        unfold Rep at hry
        rw[ho]at hry
        obtain⟨hone,_,h7⟩:=hry
        obtain⟨ys,hys,hrep⟩:=(h7 rfl).resolve_right fun h=>by cases h.1
        obtain⟨h4,h5⟩:=hi.obj id _ ho
        rw[hm]at h5
        obtain⟨us,q1,q2,q3,q4,q5⟩:=h5
        have hcl:=Fc hone
        have hsz1:(ρc y).cells.size=1:=by rw[← Aoz,hcl];rfl
        have hlu:j+1≤us.size:=by rw[q4];exact Ap0 hlt q2
        have hst:=DJ (P:=P) hs q1 (off:=j) (u:=ρc y) hsz1 (cells?_one hv (hr y)) hlu
        obtain⟨r1,r2,r3,r4,r5⟩:=Gt (w:=w) (b:=b) (cs:=(us.toList.take j++(ρc y).cells.toList++us.toList.drop (j+1)).toArray)
        have hg:=Ap.put hi ho hun' hys hm q1 hrep r1 r2 r3 r4 r5 (setRow_heap w b us _ T' _ q1) (by
         rw[List.toList_toArray,hcl,List.set_eq_take_append_cons_drop,Aoq (by rw[Aoz];omega)]
         simp)
        exact⟨_,F,m,by simp[execOp,hop,Instr.storeAt,e2,Instr.sureAddr,hst],hg⟩
       ·cases h
      ·cases h
     ·cases h
    ·cases h
   ·cases h
 ·cases h
theorem Le{H:List Ob}{id:Nat}(h:JC H id=true):∃ cs,H[id]? = some (.box cs):=by
 unfold JC at h
 split at h
 ·exact⟨_,by assumption⟩
 ·cases h
theorem D0{H:List Ob}{id:Nat}(h:Cf H id=true):∃ T t xs,H[id]? = some (.arr T t xs):=by
 unfold Cf at h
 split at h
 ·exact⟨_,_,_,by assumption⟩
 ·cases h
theorem AGM(x:Operand):Claim P E (.nilCheck x):=by
 intro R ty ρ H fz slot k r h
 simp only[evalOp]at h
 split at h
 ·rename_i id off hx
  split at h
  ·rename_i hl
   obtain⟨cs,ho⟩:=Le hl
   refine⟨_,_,h,fun R' k'=>by simp only[evalOp,hx,hl],AX fun w F m ρc o hop hty hi hr=>⟨ρc x,?_,hx▸hr x⟩⟩
   obtain⟨b,c,vs,T,_,e2,_⟩:=Tf hi ho (hx▸hr x)
   simp[execOp,hop,e2]
  ·cases h
 ·rename_i id i s hx
  split at h
  ·rename_i hl
   obtain⟨T,t,xs,ho⟩:=D0 hl
   refine⟨_,_,h,fun R' k'=>by simp only[evalOp,hx,hl],AX fun w F m ρc o hop hty hi hr=>⟨ρc x,?_,hx▸hr x⟩⟩
   obtain⟨b,c,vs,T,_,e2,_⟩:=ML hi ho (hx▸hr x)
   simp[execOp,hop,e2]
  ·cases h
 ·rename_i cs hx
  refine⟨_,_,h,fun R' k'=>by simp only[evalOp,hx],AX fun w F m ρc o hop hty hi hr=>⟨ρc x,?_,hx▸hr x⟩⟩
  have hrx:=hr x
  rw[hx]at hrx
  unfold Rep at hrx
  obtain⟨ad,us,e1,_⟩:=hrx
  simp[execOp,hop,e1]
 ·rename_i f cs hx
  refine⟨_,_,h,fun R' k'=>by simp only[evalOp,hx],AX fun w F m ρc o hop hty hi hr=>⟨ρc x,?_,hx▸hr x⟩⟩
  have hrx:=hr x
  rw[hx]at hrx
  unfold Rep at hrx
  obtain⟨us,e1,_⟩:=hrx
  simp[execOp,hop,e1]
 ·rename_i f cs hx
  refine⟨_,_,h,fun R' k'=>by simp only[evalOp,hx],AX fun w F m ρc o hop hty hi hr=>⟨ρc x,?_,hx▸hr x⟩⟩
  have hrx:=hr x
  rw[hx]at hrx
  unfold Rep at hrx
  obtain⟨us,e1,_⟩:=hrx
  simp[execOp,hop,e1]
 ·cases h
end
end Go.Pev
end
section
namespace Go.Pev
open Go.RowKit
section
variable {P:Program} {E:Env}
theorem G1(op:BinOp)(t:TypeId)(x y:Operand)(w:World)(k:IntKind)(n:Int)(v:Value):(eqGuard op t x y (.int k n) v).run P w = .ok () w:=by
 rw[eqGuard_at_int];rfl
theorem TH(op:BinOp)(t:TypeId)(x y:Operand)(w:World)(b:Bool)(v:Value):(eqGuard op t x y (.bool b) v).run P w = .ok () w:=by
 rw[eqGuard_at_bool];rfl
theorem TG(op:BinOp)(t:TypeId)(x y:Operand)(w:World)(b:ByteArray)(v:Value):(eqGuard op t x y (.string b) v).run P w = .ok () w:=by
 rw[eqGuard_at_string];rfl
theorem AUU(s s':ByteArray):AlG (bytesOf s) (bytesOf s')=(s.toList==s'.toList):=by
 rw[ArC]
 unfold AlG
 rw[AqL,AqL,ByteArray.toList_eq,ByteArray.toList_eq]
 unfold bytesOf
 constructor
 ·intro h
  exact(List.map_inj_right (fun a b e=>UInt8.toNat_inj.1 (Int.ofNat.inj e))).1 h
 ·intro h;rw[h]
theorem AWO{op:BinOp}{j:IntKind}{a b:Int}{v:AV}(h:AaF op j a b=some v)(t:TypeId)(w:World):
  ∃ u,(binOp op t (.int j a) (.int j b)).run P w = .ok u w∧∀ F m H,Rep w F m H v u:=by
 unfold AaF at h
 simp only[Af,Ar,B4]at h
 cases op with
 |add=>simp only[Aoh]at h;subst h;exact⟨.int j (j.wrap (a+b)),by simp[binOp,Op.intArith],fun _ _ _=>A0 _ _⟩
 |sub=>simp only[Aoh]at h;subst h;exact⟨.int j (j.wrap (a-b)),by simp[binOp,Op.intArith],fun _ _ _=>A0 _ _⟩
 |mul=>simp only[Aoh]at h;subst h;exact⟨.int j (j.wrap (a*b)),by simp[binOp,Op.intArith],fun _ _ _=>A0 _ _⟩
 |and=>simp only[Aoh]at h;subst h;exact⟨.int j (j.wrap (BitVec.ofInt j.bits a &&& BitVec.ofInt j.bits b).toNat),by simp only[binOp,ne_eq,AqC,Ao3];rfl,fun _ _ _=>A0 _ _⟩
 |or=>simp only[Aoh]at h;subst h;exact⟨.int j (j.wrap (BitVec.ofInt j.bits a ||| BitVec.ofInt j.bits b).toNat),by simp only[binOp,ne_eq,AqC,Ao3];rfl,fun _ _ _=>A0 _ _⟩
 |xor=>simp only[Aoh]at h;subst h;exact⟨.int j (j.wrap (BitVec.ofInt j.bits a ^^^ BitVec.ofInt j.bits b).toNat),by simp only[binOp,ne_eq,AqC,Ao3];rfl,fun _ _ _=>A0 _ _⟩
 |andNot=>simp only[Aoh]at h;subst h;exact⟨.int j (j.wrap (BitVec.ofInt j.bits a &&& ~~~(BitVec.ofInt j.bits b)).toNat),by simp only[binOp,ne_eq,AqC,Ao3];rfl,fun _ _ _=>A0 _ _⟩
 |eql=>simp only[Aoh]at h;subst h;exact⟨.bool (a==b),by simp only[binOp,ne_eq,AqC,Ao3];rfl,fun _ _ _=>BX _⟩
 |neq=>simp only[Aoh]at h;subst h;exact⟨.bool (a != b),by simp only[binOp,ne_eq,AqC,Ao3];rfl,fun _ _ _=>BX _⟩
 |lss=>simp only[Aoh]at h;subst h;exact⟨.bool (decide (a<b)),by simp only[binOp,ne_eq,AqC,Ao3];rfl,fun _ _ _=>BX _⟩
 |leq=>simp only[Aoh]at h;subst h;exact⟨.bool (decide (a≤b)),by simp only[binOp,ne_eq,AqC,Ao3];rfl,fun _ _ _=>BX _⟩
 |gtr=>simp only[Aoh]at h;subst h;exact⟨.bool (decide (a > b)),by simp only[binOp,ne_eq,AqC,Ao3];rfl,fun _ _ _=>BX _⟩
 |geq=>simp only[Aoh]at h;subst h;exact⟨.bool (decide (a≥b)),by simp only[binOp,ne_eq,AqC,Ao3];rfl,fun _ _ _=>BX _⟩
 |_=>cases h
theorem OJ{w:World}{F:Nat→Prop}{m:Mp}{H:List Ob}{v:AV}(h:Tg v=true){u:Value}(hr:Rep w F m H v u):∃ vs,u = .agg vs:=by
 cases v with
 |agg cs=>unfold Rep at hr;obtain⟨vs,e,_⟩:=hr;exact⟨vs,e⟩
 |data t d=>
  have h:t.isAgg=true:=h
  unfold Rep Bg at hr
  rw[Aoq h]at hr
  obtain⟨vs,e,_⟩:=hr;exact⟨vs,e⟩
 |_=>simp[Tg]at h
theorem AHm{T:TypeId}{n:List Bool}(h:structEq P T=some n):∃ fs:Array Field,P.underlying T=some (.struct fs)∧P.eqGuardType P.depth T=false∧P.stoodInHeld T=false∧Di P fs.toList 0=true∧n=fs.toList.map fun f=>IP P f.type:=by
 unfold structEq at h
 split at h
 ·rename_i fs hu
  split at h
  ·rename_i hok
   cases h
   simp only[Aol,AqA]at hok
   exact⟨fs,hu,hok.1,hok.2.1,hok.2.2,rfl⟩
  ·cases h
 ·cases h
theorem Bs{t:TypeId}(h:NH P t=true):(∃ k,P.underlying t=some (.int k)∧IP P t=true)∨(P.underlying t=some .bool∧IP P t=false):=by
 unfold NH at h
 split at h
 ·rename_i k hk;exact .inl ⟨k,hk,by simp[IP,hk]⟩
 ·rename_i hk;exact .inr ⟨hk,by simp[IP,hk]⟩
 ·cases h
theorem N2{k:Bool}{ks:List Bool}{c e:AV}{cs ds:List AV}{r:Bool}(h:BL (k::ks) (c::cs) (e::ds)=some r):
  (∃ j a b r',k=true∧c = .data (.int j) a∧e = .data (.int j) b∧BL ks cs ds=some r'∧r=(ieq a b&&r'))∨(∃ a b r',k=false∧c = .data .bool a∧e = .data .bool b∧BL ks cs ds=some r'∧r=((a==b)&&r')):=by
 unfold BL at h
 split at h
 ·rename_i h1;cases h1
 ·rename_i h1 h2 h3
  cases h1;cases h2;cases h3
  split at h
  ·rename_i r' hj h2
   simp only[Aok]at hj
   subst hj
   cases h
   exact .inl ⟨_,_,_,_,rfl,rfl,rfl,h2,rfl⟩
  ·cases h
 ·rename_i h1 h2 h3
  cases h1;cases h2;cases h3
  split at h
  ·rename_i r' h2
   cases h
   exact .inr ⟨_,_,_,rfl,rfl,rfl,h2,rfl⟩
  ·cases h
 ·cases h
theorem TK{w:World}{F:Nat→Prop}{m:Mp}{H:List Ob}(d:Nat)(xs ys:Array Value):∀ (fs:List Field) (i:Nat) (cs ds:List AV) (r:Bool),Di P fs i=true→Ae w F m H cs (xs.toList.drop i)→Ae w F m H ds (ys.toList.drop i)→BL (fs.map fun f=>IP P f.type) cs ds=some r →
  (Op.eqFields (d+1) xs ys fs).run P w = .ok r w:=by
 intro fs
 induction fs with
 |nil=>
  intro i cs ds r hok hc hd he
  cases cs with
  |cons c cs=>simp[BL]at he
  |nil=>
   cases ds with
   |cons c cs=>simp[BL]at he
   |nil=>simp only[AqU,BL,Aoh]at he;subst he;simp[Op.eqFields]
 |cons f fs ih=>
  intro i cs ds r hok hc hd he
  rw[ApH]at he
  cases cs with
  |nil=>cases hf:IP P f.type<;>rw[hf]at he<;>simp[BL]at he
  |cons c cs=>
   cases ds with
   |nil=>cases hf:IP P f.type<;>rw[hf]at he<;>simp[BL]at he
   |cons e ds=>
    simp only[Di,Aol,bne_iff_ne,Aok]at hok
    obtain⟨hn,ho,hsc,hok⟩:=hok
    unfold Ae at hc hd
    obtain⟨v,vs,e1,hv,hvs⟩:=hc
    obtain⟨u,us,e2,hu,hus⟩:=hd
    have g1:xs[i]? = some v:=by
     have:=AqD (·[0]?) e1
     simpa using this
    have g2:ys[i]? = some u:=by
     have:=AqD (·[0]?) e2
     simpa using this
    have n1:xs.toList.drop (i+1)=vs:=by
     have:=AqD (List.drop 1) e1
     simpa only[Aql,Aqd,Aqm]using this
    have n2:ys.toList.drop (i+1)=us:=by
     have:=AqD (List.drop 1) e2
     simpa only[Aql,Aqd,Aqm]using this
    have hag:EI P f.type=some false:=by
     rcases Bs hsc with⟨k,hk,_⟩|⟨hk,_⟩<;>simp[EI,hk]
    have p1:(part f.type xs f.offset).run P w = .ok v w:=by
     rw[ho];simp[part,CP hag,g1]
    have p2:(part f.type ys f.offset).run P w = .ok u w:=by
     rw[ho];simp[part,CP hag,g2]
    have step:∀ (q r':Bool),(Op.equalIn (d+1) f.type v u).run P w = .ok q w→BL (fs.map fun f=>IP P f.type) cs ds=some r'→(Op.eqFields (d+1) xs ys (f::fs)).run P w = .ok (q&&r') w:=by
     intro q r' h1 h2
     have h3:=ih (i+1) cs ds r' hok (by rw[n1];exact hvs) (by rw[n2];exact hus) h2
     simp only[Op.eqFields,hn,ne_eq,not_false_eq_true,ApL,Sem.run_bind,p1,Result.andThen_ok,p2,h1,Sem.run_ite]
     cases q
     ·simp
     ·simpa using h3
    rcases N2 he with⟨j,a,b,r',hk,rfl,rfl,h2,rfl⟩|⟨a,b,r',hk,rfl,rfl,h2,rfl⟩
    ·have v1:=BA hv
     have v2:=BA hu
     subst v1 v2
     rcases Bs hsc with⟨k,hk1,_⟩|⟨_,hk2⟩
     ·rw[B4]
      exact step _ _ (run_equalIn_int w d f.type j k a b hk1) h2
     ·rw[hk]at hk2;cases hk2
    ·have v1:=Cl hv
     have v2:=Cl hu
     subst v1 v2
     rcases Bs hsc with⟨k,_,hk2⟩|⟨hk1,_⟩
     ·rw[hk]at hk2;cases hk2
     ·exact step _ _ (run_equalIn_bool' w d f.type a b hk1) h2
theorem AT2:∀ {ks ks':List Bool} {cs ds:List AV} {r:Bool},BL (ks++ks') cs ds=some r →
  ∃ cs1 cs2 ds1 ds2 r1 r2,cs=cs1++cs2∧ds=ds1++ds2∧cs1.length=ks.length∧ds1.length=ks.length∧BL ks cs1 ds1=some r1∧BL ks' cs2 ds2=some r2∧r=(r1&&r2):=by
 intro ks
 induction ks with
 |nil=>intro ks' cs ds r h;exact⟨[],cs,[],ds,true,r,rfl,rfl,rfl,rfl,rfl,h,by simp⟩
 |cons b ks ih=>
  intro ks' cs ds r h
  rw[ApE]at h
  cases cs with
  |nil=>cases b<;>simp[BL]at h
  |cons c cs=>
   cases ds with
   |nil=>cases b<;>simp[BL]at h
   |cons e ds=>
    rcases N2 h with⟨j,x,y,r',rfl,rfl,rfl,h2,rfl⟩|⟨x,y,r',rfl,rfl,rfl,h2,rfl⟩
    ·obtain⟨cs1,cs2,ds1,ds2,r1,r2,rfl,rfl,l1,l2,q1,q2,rfl⟩:=ih h2
     exact⟨_::cs1,cs2,_::ds1,ds2,(ieq x y&&r1),r2,rfl,rfl,by simp[l1],by simp[l2],by simp[BL,q1],q2,by rw[Bool.and_assoc]⟩
    ·obtain⟨cs1,cs2,ds1,ds2,r1,r2,rfl,rfl,l1,l2,q1,q2,rfl⟩:=ih h2
     exact⟨_::cs1,cs2,_::ds1,ds2,((x==y)&&r1),r2,rfl,rfl,by simp[l1],by simp[l2],by simp[BL,q1],q2,by rw[Bool.and_assoc]⟩
theorem AGy{w:World}{F:Nat→Prop}{m:Mp}{H:List Ob}:∀ {a b:List AV} {vs:List Value},Ae w F m H (a++b) vs→∃ v1 v2,vs=v1++v2∧Ae w F m H a v1∧Ae w F m H b v2:=by
 intro a
 induction a with
 |nil=>intro b vs h;exact⟨[],vs,rfl,by unfold Ae;rfl,h⟩
 |cons c a ih=>
  intro b vs h
  rw[ApE]at h
  unfold Ae at h
  obtain⟨v,vs',rfl,hv,h⟩:=h
  obtain⟨v1,v2,rfl,h1,h2⟩:=ih h
  exact⟨v::v1,v2,rfl,by unfold Ae;exact⟨v,v1,rfl,hv,h1⟩,h2⟩
theorem AZM{w:World}{F:Nat→Prop}{m:Mp}{H:List Ob}(d:Nat)(xs ys:Array Value):∀ (fs:List Field) (i:Nat) (n:List Bool) (cs ds:List AV) (r:Bool),Qj P fs i=some n→Ae w F m H cs (xs.toList.drop i)→Ae w F m H ds (ys.toList.drop i)→BL n cs ds=some r →
  (Op.eqFields (d+1+1) xs ys fs).run P w = .ok r w:=by
 intro fs
 induction fs with
 |nil=>
  intro i n cs ds r hok hc hd he
  cases hok
  cases cs with
  |cons c cs=>simp[BL]at he
  |nil=>
   cases ds with
   |cons c cs=>simp[BL]at he
   |nil=>simp only[BL,Aoh]at he;subst he;simp[Op.eqFields]
 |cons f fs ih=>
  intro i n cs ds r hok hc hd he
  unfold Qj at hok
  split at hok
  ·cases hok
  rename_i hno
  simp only[Aol,bne_iff_ne,Aok]at hno
  obtain⟨hn,ho⟩:=hno
  have go:∀ (v u:Value) (n1 n2:List Bool) (cs1 cs2 ds1 ds2:List AV) (q r':Bool) (j:Nat),Qj P fs (i+j)=some n2→Ae w F m H cs2 (xs.toList.drop (i+j))→Ae w F m H ds2 (ys.toList.drop (i+j))→BL n2 cs2 ds2=some r' →
    (part f.type xs f.offset).run P w = .ok v w→(part f.type ys f.offset).run P w = .ok u w→(Op.equalIn (d+1+1) f.type v u).run P w = .ok q w→(Op.eqFields (d+1+1) xs ys (f::fs)).run P w = .ok (q&&r') w:=by
   intro v u n1 n2 cs1 cs2 ds1 ds2 q r' j h1 h2 h3 h4 p1 p2 h5
   have h6:=ih (i+j) n2 cs2 ds2 r' h1 h2 h3 h4
   simp only[Op.eqFields,hn,ne_eq,not_false_eq_true,ApL,Sem.run_bind,p1,Result.andThen_ok,p2,h5,Sem.run_ite]
   cases q
   ·simp
   ·simpa using h6
  split at hok
  ·rename_i hsc
   obtain⟨n2,h2,rfl⟩:=Aoy.1 hok
   cases cs with
   |nil=>cases hf:IP P f.type<;>rw[hf]at he<;>simp[BL]at he
   |cons c cs=>
    cases ds with
    |nil=>cases hf:IP P f.type<;>rw[hf]at he<;>simp[BL]at he
    |cons e ds=>
     unfold Ae at hc hd
     obtain⟨v,vs,e1,hv,hvs⟩:=hc
     obtain⟨u,us,e2,hu,hus⟩:=hd
     have g1:xs[i]? = some v:=by
      have:=AqD (·[0]?) e1
      simpa using this
     have g2:ys[i]? = some u:=by
      have:=AqD (·[0]?) e2
      simpa using this
     have n1:xs.toList.drop (i+1)=vs:=by
      have:=AqD (List.drop 1) e1
      simpa only[Aql,Aqd,Aqm]using this
     have n3:ys.toList.drop (i+1)=us:=by
      have:=AqD (List.drop 1) e2
      simpa only[Aql,Aqd,Aqm]using this
     have hag:EI P f.type=some false:=by
      rcases Bs hsc with⟨k,hk,_⟩|⟨hk,_⟩<;>simp[EI,hk]
     have p1:(part f.type xs f.offset).run P w = .ok v w:=by
      rw[ho];simp[part,CP hag,g1]
     have p2:(part f.type ys f.offset).run P w = .ok u w:=by
      rw[ho];simp[part,CP hag,g2]
     rcases N2 he with⟨j,a,b,r',hk,rfl,rfl,h4,rfl⟩|⟨a,b,r',hk,rfl,rfl,h4,rfl⟩
     ·have v1:=BA hv
      have v2:=BA hu
      subst v1 v2
      rcases Bs hsc with⟨k,hk1,_⟩|⟨_,hk2⟩
      ·rw[B4]
       exact go _ _ [] n2 [] cs [] ds _ _ 1 h2 (by rw[n1];exact hvs) (by rw[n3];exact hus) h4 p1 p2 (run_equalIn_int w _ f.type j k a b hk1)
      ·rw[hk]at hk2;cases hk2
     ·have v1:=Cl hv
      have v2:=Cl hu
      subst v1 v2
      rcases Bs hsc with⟨k,_,hk2⟩|⟨hk1,_⟩
      ·rw[hk]at hk2;cases hk2
      ·exact go _ _ [] n2 [] cs [] ds _ _ 1 h2 (by rw[n1];exact hvs) (by rw[n3];exact hus) h4 p1 p2 (run_equalIn_bool' w _ f.type a b hk1)
  ·split at hok
   ·rename_i gs hu
    split at hok
    ·rename_i hg
     simp only[Aol,AqA,Aok]at hg
     obtain⟨hst,hge,hsz⟩:=hg
     obtain⟨n2,h2,rfl⟩:=Aoy.1 hok
     obtain⟨cs1,cs2,ds1,ds2,r1,r2,rfl,rfl,l1,l2,q1,q2,rfl⟩:=AT2 he
     obtain⟨x1,x2,ex,hx1,hx2⟩:=AGy hc
     obtain⟨y1,y2,ey,hy1,hy2⟩:=AGy hd
     have lx:=As hx1
     have ly:=As hy1
     have lg:(gs.toList.map fun g=>IP P g.type).length=gs.size:=by simp
     rw[lg]at l1 l2
     have hag:EI P f.type=some true:=by simp[EI,hu]
     have hfo:P.fieldsOf f.type=gs:=by simp[Program.fieldsOf,hu]
     have tk:∀ (zs:Array Value) (z1 z2:List Value),zs.toList.drop i=z1++z2→z1.length=gs.size→(zs.extract i (i+gs.size)).toList=z1∧zs.toList.drop (i+gs.size)=z2:=by
      intro zs z1 z2 hz hl
      constructor
      ·rw[Array.toList_extract,ArZ,hz,Nat.add_sub_cancel_left,← hl,Ara]
       rfl
      ·rw[← Aql,hz,← hl,List.drop_left']
       rfl
     obtain⟨t1,t2⟩:=tk xs x1 x2 ex (by omega)
     obtain⟨t3,t4⟩:=tk ys y1 y2 ey (by omega)
     have hso:(sizeOf f.type).run P w = .ok gs.size w:=by
      obtain⟨ii,hi1,hi2⟩:=Aoy.1 hsz
      rw[run_sizeOf hi1,hi2]
     have p1:(part f.type xs f.offset).run P w = .ok (.agg (xs.extract i (i+gs.size))) w:=by
      rw[ho];simp[part,CP hag,hso]
     have p2:(part f.type ys f.offset).run P w = .ok (.agg (ys.extract i (i+gs.size))) w:=by
      rw[ho];simp[part,CP hag,hso]
     refine go _ _ [] n2 [] cs2 [] ds2 r1 r2 gs.size h2 (by rw[t2];exact hx2) (by rw[t4];exact hy2) q2 p1 p2 ?_
     rw[run_equalIn_agg w (d+1) f.type _ _ (by rw[hfo];exact hu) hst,hfo]
     exact TK d _ _ gs.toList 0 cs1 ds1 r1 hge (by rw[t1];exact hx1) (by rw[t3];exact hy1) q1
    ·cases hok
   ·cases hok
theorem ACA{T:TypeId}{n:List Bool}(h:VY P T=some n):∃ fs:Array Field,P.underlying T=some (.struct fs)∧P.eqGuardType P.depth T=false∧P.stoodInHeld T=false∧Qj P fs.toList 0=some n:=by
 unfold VY at h
 split at h
 ·rename_i fs hu
  split at h
  ·rename_i hok
   simp only[Aol,AqA]at hok
   exact⟨fs,hu,hok.1,hok.2,h⟩
  ·cases h
 ·cases h
theorem AUP(op:BinOp)(T:TypeId)(x y:Operand)(T':TypeId):Claim P E (.binOp op T x y T'):=by
 intro R ty ρ H fz slot k r h
 simp only[evalOp]at h
 split at h
 ·rename_i n hse
  split at h
  ·rename_i cs ds hcx hcy hag
   rw[Aol]at hag
   obtain⟨fs,hu,hgt,hst,hok⟩:=ACA hse
   have hfo:P.fieldsOf T=fs:=by simp[Program.fieldsOf,hu]
   have hrun:∀ (b:Bool),BL n cs ds=some b→∀ (w:World) (F:Nat→Prop) (m:Mp) (ρc:Operand→Value),(∀ x,Rep w F m H (ρ x) (ρc x)) →
     ∃ vs us,ρc x = .agg vs∧ρc y = .agg us∧(Op.equalIn 10000 T (.agg vs) (.agg us)).run P w = .ok b w:=by
    intro b hb w F m ρc hr
    obtain⟨vs,e1⟩:=OJ hag.1 (hr x)
    obtain⟨us,e2⟩:=OJ hag.2 (hr y)
    have r1:=cells?_ok hcx (hr x)
    have r2:=cells?_ok hcy (hr y)
    rw[e1]at r1
    rw[e2]at r2
    refine⟨vs,us,e1,e2,?_⟩
    rw[run_equalIn_agg w 9999 T vs us (by rw[hfo];exact hu) hst,hfo]
    exact AZM 9997 vs us fs.toList 0 n cs ds b hok (by simpa [Value.cells]using r1) (by simpa [Value.cells]using r2) hb
   split at h
   ·rename_i b hb
    refine⟨_,_,h,fun R' k'=>by simp only[evalOp,hse,hcx,hcy,hag.1,hag.2,Apo,hb],AX fun w F m ρc o hop hty hi hr=>⟨.bool b,?_,BX _⟩⟩
    obtain⟨vs,us,e1,e2,e3⟩:=hrun b hb w F m ρc hr
    simp[execOp,hop,e1,e2,run_eqGuard_agg w _ T x y vs us hgt,run_eql_struct w T vs us,e3]
   ·rename_i b hb
    refine⟨_,_,h,fun R' k'=>by simp only[evalOp,hse,hcx,hcy,hag.1,hag.2,Apo,hb],AX fun w F m ρc o hop hty hi hr=>⟨.bool (!b),?_,BX _⟩⟩
    obtain⟨vs,us,e1,e2,e3⟩:=hrun b hb w F m ρc hr
    simp[execOp,hop,e1,e2,run_eqGuard_agg w _ T x y vs us hgt,run_neq_struct w T vs us,e3]
   ·cases h
  ·cases h
 rename_i hse
 split at h
 ·rename_i j a j' b hx hy
  split at h
  ·split at h
   ·rename_i n hn
    refine⟨_,_,h,fun R' k'=>by simp only[evalOp,hse,hx,hy,hn],AX fun w F m ρc o hop hty hi hr=>⟨.int j n,?_,A0 _ _⟩⟩
    have e1:=BA (hx▸hr x);have e2:=BA (hy▸hr y)
    rw[AMR]at hn;unfold ACR at hn
    split at hn
    ·cases hn
    ·simp only[Aoh]at hn;subst hn
     simp[execOp,G1,binOp,Op.shift, *]
   ·cases h
  ·split at h
   ·rename_i n hn
    refine⟨_,_,h,fun R' k'=>by simp only[evalOp,hse,hx,hy,hn],AX fun w F m ρc o hop hty hi hr=>⟨.int j n,?_,A0 _ _⟩⟩
    have e1:=BA (hx▸hr x);have e2:=BA (hy▸hr y)
    rw[ACQ]at hn;unfold AAG at hn
    split at hn
    ·cases hn
    ·simp only[Aoh]at hn;subst hn
     simp[execOp,G1,binOp,Op.shift, *]
   ·cases h
  ·split at h
   ·rename_i hj
    split at h
    ·rename_i n hn
     refine⟨_,_,h,fun R' k'=>by simp only[evalOp,hse,hx,hy,hn,hj],AX fun w F m ρc o hop hty hi hr=>⟨.int j n,?_,A0 _ _⟩⟩
     have e1:=BA (hx▸hr x);have e2:=BA (hy▸hr y)
     simp only[Aok]at hj;subst hj
     rw[WK]at hn;unfold WL at hn
     split at hn
     ·cases hn
     ·simp only[Aoh]at hn;subst hn
      simp[execOp,G1,binOp,Op.intDiv, *]
    ·cases h
   ·cases h
  ·split at h
   ·rename_i hj
    split at h
    ·rename_i n hn
     refine⟨_,_,h,fun R' k'=>by simp only[evalOp,hse,hx,hy,hn,hj],AX fun w F m ρc o hop hty hi hr=>⟨.int j n,?_,A0 _ _⟩⟩
     have e1:=BA (hx▸hr x);have e2:=BA (hy▸hr y)
     simp only[Aok]at hj;subst hj
     rw[AMk]at hn;unfold ADG at hn
     split at hn
     ·cases hn
     ·simp only[Aoh]at hn;subst hn
      simp[execOp,G1,binOp,Op.intDiv, *]
    ·cases h
   ·cases h
  ·rename_i h1 h2 h3 h4
   split at h
   ·rename_i v hj hv
    refine⟨_,_,h,fun R' k' => ?_,AX fun w F m ρc o hop hty hi hr => ?_⟩
    ·simp only[evalOp,hse,hx,hy]
     cases op<;>first|exact absurd rfl h1|exact absurd rfl h2|exact absurd rfl h3|exact absurd rfl h4|simp only[hj,hv]
    ·have e1:=BA (hx▸hr x);have e2:=BA (hy▸hr y)
     simp only[Aok]at hj;subst hj
     obtain⟨u,q1,q2⟩:=AWO (P:=P) hv T w
     exact⟨u,by simp[execOp,hop,e1,e2,G1,q1],q2 _ _ _⟩
   ·cases h
 ·rename_i a b hx hy
  split at h
  ·rename_i hu
   refine⟨_,_,h,fun R' k'=>by simp only[evalOp,hse,hx,hy,hu],AX fun w F m ρc o hop hty hi hr=>⟨.bool (a==b),?_,BX _⟩⟩
   have e1:=Cl (hx▸hr x);have e2:=Cl (hy▸hr y)
   simp[execOp,hop,e1,e2,TH,run_eql_bool w T a b hu]
  ·rename_i hu
   refine⟨_,_,h,fun R' k'=>by simp only[evalOp,hse,hx,hy,hu],AX fun w F m ρc o hop hty hi hr=>⟨.bool (!(a==b)),?_,BX _⟩⟩
   have e1:=Cl (hx▸hr x);have e2:=Cl (hy▸hr y)
   simp[execOp,hop,e1,e2,TH,run_neq_bool w T a b hu]
  ·cases h
 ·rename_i a b hx hy
  have hstr:∀ {w:World} {F:Nat→Prop} {m:Mp} {ρc:Operand→Value},(∀ x,Rep w F m H (ρ x) (ρc x))→∃ s s',ρc x = .string s∧ρc y = .string s'∧(s.toList==s'.toList)=seq? a b:=by
   intro w F m ρc hr
   have r1:=hx▸hr x
   have r2:=hy▸hr y
   unfold Rep at r1 r2
   obtain⟨s,e1,rfl⟩:=r1
   obtain⟨s',e2,rfl⟩:=r2
   refine⟨s,s',e1,e2,?_⟩
   rw[seq_eq];exact(AUU s s').symm
  split at h
  ·refine⟨_,_,h,fun R' k'=>by simp only[evalOp,hse,hx,hy],AX fun w F m ρc o hop hty hi hr=>⟨.bool (seq? a b),?_,BX _⟩⟩
   obtain⟨s,s',e1,e2,e3⟩:=hstr hr
   simp[execOp,hop,e1,e2,TG,binOp_string_eql,e3]
  ·refine⟨_,_,h,fun R' k'=>by simp only[evalOp,hse,hx,hy],AX fun w F m ρc o hop hty hi hr=>⟨.bool (!(seq? a b)),?_,BX _⟩⟩
   obtain⟨s,s',e1,e2,e3⟩:=hstr hr
   simp[execOp,hop,e1,e2,TG,binOp_string_neq,e3]
  ·cases h
 ·cases h
theorem AZm(op:UnOp)(T:TypeId)(x:Operand):Claim P E (.unOp op T x):=by
 intro R ty ρ H fz slot k r h
 simp only[evalOp]at h
 split at h
 ·rename_i b hx
  refine⟨_,_,h,fun R' k'=>by simp only[evalOp,hx],AX fun w F m ρc o hop hty hi hr=>⟨.bool (!b),?_,BX _⟩⟩
  have e1:=Cl (hx▸hr x)
  simp[execOp,hop,e1,Op.unary]
 ·rename_i j n hx
  refine⟨_,_,h,fun R' k'=>by simp only[evalOp,hx],AX fun w F m ρc o hop hty hi hr=>⟨.int j (j.wrap (0-n)),?_,A0 _ _⟩⟩
  have e1:=BA (hx▸hr x)
  simp[execOp,hop,e1,Op.unary,Op.intArith]
 ·cases h
theorem Gy{T:TypeId}{j:IntKind}(h:Ll P T=some j):P.underlying T=some (.int j):=by
 unfold Ll at h
 split at h
 ·rename_i hu;simp only[Aoh]at h;subst h;exact hu
 ·cases h
theorem AGO(fn:Fn)(first cs:Array Operand):Claim P E (.makeFunc fn first cs):=by
 intro R ty ρ H fz slot k r h
 cases fn with
 |func f=>
  simp only[evalOp]at h
  split at h
  ·rename_i hf
   refine⟨_,_,h,fun R' k'=>by simp only[evalOp,hf],AX fun w F m ρc o hop hty hi hr=>⟨.func (.func f) #[] (cs.map ρc),?_,?_⟩⟩
   ·have:first = #[]:=by
     rw[← Array.toList_eq_nil_iff];exact hf
    subst this
    simp[execOp,hop,Instr.makeFunc]
   ·unfold Rep
    refine⟨_,rfl,?_⟩
    rw[Ap9]
    exact DV (by simp) fun i c v hc hv=>by
     rw[ApV]at hc hv
     cases hx:cs.toList[i]? with
     |none=>rw[hx]at hc;cases hc
     |some x=>
      rw[hx]at hc hv
      cases hc;cases hv
      exact hr x
  ·rename_i y ys hf
   split at h
   ·rename_i hcs
    refine⟨_,_,h,fun R' k'=>by simp only[evalOp,hf,hcs],AX fun w F m ρc o hop hty hi hr=>⟨.func (.func f) (first.map ρc) #[],?_,?_⟩⟩
    ·have:cs = #[]:=by
      rw[← Array.toList_eq_nil_iff];exact hcs
     subst this
     simp[execOp,hop,Instr.makeFunc]
    ·unfold Rep
     refine⟨_,rfl,?_⟩
     rw[Ap9,← hf]
     exact DV (by simp) fun i c v hc hv=>by
      rw[ApV]at hc hv
      cases hx:first.toList[i]? with
      |none=>rw[hx]at hc;cases hc
      |some x=>
       rw[hx]at hc hv
       cases hc;cases hv
       exact hr x
   ·cases h
 |_=>simp[evalOp]at h
theorem AIt(T:TypeId)(o:Option Operand):Claim P E (.makeMap T o):=by
 intro R ty ρ H fz slot k r h
 cases o with
 |some x=>simp[evalOp]at h
 |none=>
  simp only[evalOp]at h
  split at h
  ·rename_i a b hu
   split at h
   ·rename_i j e t hE hj hsl
    split at h
    ·rename_i hf
     refine⟨_,_,h,fun R' k'=>by simp only[evalOp,hu,hE,hj,hsl,hf],A4 fun w F m ρc o hop hty hi hr => ?_⟩
     obtain⟨_,_,hpos⟩:=Bp hsl
     have hg:=Ap.AoL (w':=w.alloc (.map #[] 0)) hi hf (T:=.map j []) (e:=e) (t:=t) (n:=0) (some (w.heap.size,0)) rfl rfl rfl (by simp) (fun b hb=>Below.heap_alloc w _ b hb)
      (fun b c h=>by cases h;exact Aop _) hpos
      ⟨hpos,#[],0,heap_alloc_new w _,⟨rfl,fun i e h=>by simp at h⟩,rfl,.inl rfl,fun k h=>by cases h⟩
      (fun k hk=>absurd hk (Nat.not_lt_zero k))
     refine⟨.map (some w.heap.size),_,F,_,by simp[execOp,hop,Instr.makeMap],hg,?_⟩
     unfold Rep
     have hlt:=Al (BN hf).1
     rw[show CO { objs:=[(slot,.rows (.map j []) e t [] 0 none)] } H=H.set slot (.rows (.map j []) e t (List.replicate 0 ([]:List t.den)) 0 none)from rfl,Aw hlt,K7]
     exact⟨_,_,rfl,rfl⟩
    ·cases h
   rename_i hno
   split at h
   ·rename_i ta tb ha hb
    split at h
    ·rename_i hf
     refine⟨_,_,h,fun R' k'=>by simp only[evalOp,hu,ha,hb,hf],A4 fun w F m ρc o hop hty hi hr => ?_⟩
     have hg:=Ap.new (w':=w.alloc (.map #[] 0)) hi hf (ob:=.map ta tb []) trivial (some (w.heap.size,0)) rfl rfl rfl (by simp) (fun b hb=>Below.heap_alloc w _ b hb)
      (fun b c h=>by cases h;exact Aop _)
      (fun _=>⟨w.heap.size,0,#[],0,rfl,heap_alloc_new w _,rfl,rfl,fun i e h=>by simp at h⟩)
     refine⟨.map (some w.heap.size),_,F,_,by simp[execOp,hop,Instr.makeMap],hg,?_⟩
     unfold Rep
     have hlt:=Al (BN hf).1
     rw[show CO { objs:=[(slot,.map ta tb [])] } H=H.set slot (.map ta tb [])from rfl,Aw hlt,Aq]
     exact⟨_,_,rfl,rfl⟩
    ·cases h
   ·cases h
  ·cases h
theorem AYO(b:Bool)(t:Ty):zeroCells (t.made b)=zeroCells t:=by
 cases t<;>cases b<;>rfl
theorem Aeo(b:Bool)(t:Ty):(t.made b).size=t.size:=by
 cases t<;>cases b<;>rfl
theorem AAf(T:TypeId)(x y:Operand):Claim P E (.makeSlice T x y):=by
 intro R ty ρ H fz slot k r h
 simp only[evalOp]at h
 split at h
 ·rename_i e t hsl
  split at h
  ·rename_i zz j l j' c hz hx hy
   split at h
   ·rename_i hfit
    split at h
    ·rename_i hf
     refine⟨_,_,h,fun R' k'=>by simp only[evalOp,hsl,hz,hx,hy,hfit,hf],A4 fun w F m ρc o hop hty hi hr => ?_⟩
     obtain⟨hu,hty0,hpos⟩:=Bp hsl
     obtain⟨t',cs'⟩:=zz
     obtain⟨hty',hcs',i,z,hi0,hz0,hok,hsz,hza⟩:=Bl hz
     subst hcs'
     have:t'=t:=by rw[hty0]at hty';exact(Apr hty').symm
     subst this
     simp only[Aol,D5,Ar,Aok,hi0,AqQ,ApF]at hfit
     obtain⟨⟨⟨⟨a1,a2⟩,a3,a4⟩,a5⟩,a6⟩:=hfit
     have e1:=BA (hx▸hr x);have e2:=BA (hy▸hr y)
     obtain⟨l',rfl⟩:=Aou a1
     obtain⟨c',rfl⟩:=Aou a3
     have hbb:(i.bytes:Int)*(c':Int)≤281474976710656:=by
      have:i.bytes*c'≤65536*4294967296:=Aq8 a6 (by omega)
      have h2:((i.bytes*c':Nat):Int)≤281474976710656:=by omega
      rwa [Int.natCast_mul]at h2
     have hrun:=run_make (P:=P) w T e i z hu hi0 hz0 j j' l' c' a1 a5 hbb (by omega)
     simp only[Apb]at hrun
     have a5':(l':Int)≤(c':Int):=a5
     have a4':(c':Int)≤4294967296:=a4
     have hle:l'≤c':=by omega
     cases hrw:(match E.rows,sliceAt P e with|true,some q=>some q|_,_=>none)with
     |some q=>
      obtain⟨er,t2⟩:=q
      have hme:Qq P E e t' (AO (l':Int)) = .rows (.arr e) er t2 (List.replicate l' []) 0 none:=by
       unfold Qq
       split at hrw
       ·rename_i q' h1 h2
        cases hrw
        rw[h1,h2];rfl
       ·cases hrw
      have hs2:sliceAt P e=some (er,t2):=by
       split at hrw
       ·rename_i q' h1 h2;cases hrw;exact h2
       ·cases hrw
      obtain⟨hu2,hty2,hpos2⟩:=Bp hs2
      have htt:∃ y,t' = .slice y:=by
       unfold ALI AAE at hty0
       rw[hu2]at hty0
       simp only[Aoy]at hty0
       obtain⟨y,_,rfl⟩:=hty0
       exact⟨y,rfl⟩
      obtain⟨y,rfl⟩:=htt
      have hz1:z.cells.toList=[.slice none 0 0]:=by
       have:=Bb (w:=w) (F:=F) (.nul y) _ hok
       exact this
      have hsz1:i.size=1:=hsz
      have hzl:z.cells.size=1:=by rw[← Aoz,hz1];rfl
      have hmade:(madeCells z.cells (c'*i.size)).toList=List.replicate c' (.slice none 0 0):=by
       have:=Cm z.cells c'
       rw[hzl,Aqu]at this
       rw[hsz1,Aqu]
       have h2:(madeCells z.cells c').toList=(List.replicate c' z.cells.toList).flatten:=by unfold madeCells;rw[hzl];exact this
       rw[h2,hz1]
       simp
      have hhp:=heap_alloc_new w (.cells (madeCells z.cells (c'*i.size)) e)
      have hg:=Ap.AoL (w':=w.alloc (.cells (madeCells z.cells (c'*i.size)) e)) hi hf (T:=.arr e) (e:=er) (t:=t2) (n:=l') (some (w.heap.size,c')) rfl rfl rfl (by simp) (fun b hb=>Below.heap_alloc w _ b hb)
       (fun b c h=>by cases h;exact Aop _) hpos2
       ⟨hpos2,_,hhp,by rw[Apv];exact hle,by simp only[maxLen];omega,by rw[size_madeCells,hsz1,Aqu],fun u hu=>by
        rw[hmade]at hu
        rw[AqT hu];rfl⟩
       (fun k hk=>⟨_,_,none,rfl,_,hhp,by rw[hmade,AqE,Aoq (by omega)]⟩)
      refine⟨.slice (some ⟨w.heap.size,0,none⟩) l' c',w.alloc (.cells (madeCells z.cells (c'*i.size)) e),F,(Pc m slot (some (w.heap.size,c')) fun _=>none),by simp[execOp,hop,e1,e2,hrun],(?_:Ap w F m H fz (w.alloc (.cells (madeCells z.cells (c'*i.size)) e)) F (Pc m slot (some (w.heap.size,c')) fun _=>none) (H.set slot (Qq P E e (.slice y) (AO (l':Int)))) fz),?_⟩
      ·rw[hme];exact hg
      ·show Rep _ _ _ (H.set slot (Qq P E e (.slice y) (AO (l':Int)))) _ _
       rw[hme]
       unfold Rep
       rw[Aw (Al (BN hf).1),K7]
       simp only[A8,Apv]
     |none=>
     have hme:Qq P E e t' (AO (l':Int)) = .arr e (t'.made E.keep) (D6 (AO (l':Int)) (t'.made E.keep).zero):=by
      unfold Qq
      split
      ·rename_i h1 h2;rw[h1,h2]at hrw;cases hrw
      ·rfl
     rw[hme]
     rw[← AYO E.keep t']at hok
     rw[← Aeo E.keep t']at hpos hsz
     generalize t'.made E.keep=t' at *
     have hzd:=Bb (w:=w) (F:=F) t' _ hok
     have hzl:z.cells.size=t'.size:=by rw[← Aoz];exact Dat.length t' hzd
     have hmade:(madeCells z.cells (c'*i.size)).toList=(List.replicate c' z.cells.toList).flatten:=by
      have:=Cm z.cells c'
      rw[hzl,← hsz]at this
      exact(by unfold madeCells;rw[hzl,← hsz];exact this)
     have hrow:=FE (w:=w) (F:=F) hzd l'
     have hrl:=A5 (fun x cs (h:Dat w F t' x cs)=>Dat.length t' h) hrow
     rw[Apv]at hrl
     obtain⟨m',hg,hrep⟩:=FP hi hf (w':=w.alloc (.cells (madeCells z.cells (c'*i.size)) e)) hpos (xs:=List.replicate l' t'.zero) (heap_alloc_new w _) rfl rfl rfl (by simp) (fun b hb=>Below.heap_alloc w _ b hb)
      (cap:=c') (by simpa using hle) (by simp only[maxLen];omega) (by rw[size_madeCells,hsz]) hrow (by
       rw[hmade,hrl]
       have:c'=l'+(c'-l'):=by omega
       rw[this,← List.replicate_append_replicate,List.flatten_append,Aqf,Apq (by rw[hrl];omega),hrl]
       simp)
     rw[Apv]at hrep
     exact⟨_,_,F,m',by simp[execOp,hop,e1,e2,hrun],hg,hrep⟩
    ·cases h
   ·cases h
  ·cases h
 ·cases h
end
end Go.Pev
end
section
namespace Go.Pev
open Go.RowKit
section
variable {P:Program} {E:Env}
theorem Hf{α:Type}{xs ys:List α}{l h:Int}(e:Cj xs l h=some ys):0≤l∧l≤h∧h≤xs.length∧ys=(xs.take h.toNat).drop l.toNat:=by
 rw[AAq]at e
 unfold Po at e
 split at e
 ·rename_i hc;simp only[Aoh]at e;exact⟨hc.1,hc.2.1,hc.2.2,e.symm⟩
 ·cases e
theorem Ag{α:Type}{xs:List α}{i:Int}{x:α}(e:idx xs i=some x):0≤i∧i<xs.length∧xs[i.toNat]? = some x:=by
 rw[idx_eq]at e
 unfold Pe at e
 split at e
 ·cases e
 ·rename_i hc
  have:=(Apn.1 e).1
  exact⟨by omega,by omega,e⟩
theorem Lo{w:World}{F:Nat→Prop}{m:Mp}{H:List Ob}{v:AV}{n:Int}(h:AKQ v=some n){u:Value}(hr:Rep w F m H v u):∃ k,u = .int k n:=by
 unfold AKQ at h
 split at h
 ·simp only[Aoh]at h;subst h;exact⟨_,BA hr⟩
 ·cases h
theorem Nj{w:World}{F:Nat→Prop}{m:Mp}{H:List Ob}{ρ:Operand→AV}{ρc:Operand→Value}(hr:∀ x,Rep w F m H (ρ x) (ρc x)){o:Option Operand}{l:Option Int}(h:Eb ρ o=some l):
  (o.map ρc=none∧l=none)∨∃ k n,o.map ρc=some (.int k n)∧l=some n:=by
 unfold Eb at h
 split at h
 ·simp only[Aoh]at h;exact .inl ⟨rfl,h.symm⟩
 ·rename_i x
  simp only[Aoy]at h
  obtain⟨n,h1,rfl⟩:=h
  obtain⟨k,h2⟩:=Lo h1 (hr x)
  exact .inr ⟨k,n,by simp[h2],rfl⟩
theorem DO{w:World}{T e:TypeId}{i:TypeInfo}(hu:P.underlying T=some (.slice e))(hi:P.info? e=some i)(a:Option Addr)(len cap:Nat){lo hi':Option Value}{l h:Int}
  (hlo:(lo=none∧l=0)∨∃ k,lo=some (.int k l)) (hhi:(hi'=none∧h=len)∨∃ k,hi'=some (.int k h)) (h0:0≤l) (h1:l≤h) (h2:h≤cap) (h3:len≤cap) :
  (Instr.sliceAt T (.slice a len cap) lo hi' none).run P w = .ok (.slice (if cap=l.toNat then a else a.map (·.add (l.toNat*i.size))) (h.toNat-l.toNat) (cap-l.toNat)) w:=by
 have hb:(Instr.sliceBounds true len cap lo hi' none).run P w = .ok (l.toNat,h.toNat,cap) w:=by
  obtain⟨l,rfl⟩:=Aou h0
  obtain⟨h,rfl⟩:=Aou (show 0≤h by omega)
  have h1:l≤h:=by omega
  have h2:h≤cap:=by omega
  rcases hhi with⟨rfl,e1⟩|⟨k,rfl⟩<;>rcases hlo with⟨rfl,e2⟩|⟨k',rfl⟩
  ·have e3:l=0:=by omega
   have e4:h=len:=by omega
   subst e3;subst e4
   simp[Instr.sliceBounds]
  ·have e4:h=len:=by omega
   subst e4
   simp[Instr.sliceBounds,Instr.sliceBound,asIntOf,h1]
  ·have e3:l=0:=by omega
   subst e3
   simp[Instr.sliceBounds,Instr.sliceBound,asIntOf,h2]
  ·simp[Instr.sliceBounds,Instr.sliceBound,asIntOf,h1,h2]
 simp only[Instr.sliceAt,Sem.run_bind,run_underlying hu,Result.andThen_ok,Instr.slice,hb,run_sizeOf hi,Sem.run_pure]
theorem ACr{w:World}(n:Nat){lo hi':Option Value}{l h:Int}
  (hlo:(lo=none∧l=0)∨∃ k,lo=some (.int k l)) (hhi:(hi'=none∧h=n)∨∃ k,hi'=some (.int k h)) (h0:0≤l) (h1:l≤h) (h2:h≤n) :
  (Instr.sliceBounds false n n lo hi' none).run P w = .ok (l.toNat,h.toNat,n) w:=by
 obtain⟨l,rfl⟩:=Aou h0
 obtain⟨h,rfl⟩:=Aou (show 0≤h by omega)
 have h1:l≤h:=by omega
 have h2:h≤n:=by omega
 rcases hhi with⟨rfl,e1⟩|⟨k,rfl⟩<;>rcases hlo with⟨rfl,e2⟩|⟨k',rfl⟩
 ·have e3:l=0:=by omega
  have e4:h=n:=by omega
  subst e3;subst e4
  simp[Instr.sliceBounds]
 ·have e4:h=n:=by omega
  subst e4
  simp[Instr.sliceBounds,Instr.sliceBound,asIntOf,h1]
 ·have e3:l=0:=by omega
  subst e3
  simp[Instr.sliceBounds,Instr.sliceBound,asIntOf,h2]
 ·simp[Instr.sliceBounds,Instr.sliceBound,asIntOf,h1,h2]
theorem Qs{w:World}{F:Nat→Prop}{m:Mp}{H:List Ob}{ρ:Operand→AV}{ρc:Operand→Value}(hr:∀ x,Rep w F m H (ρ x) (ρc x)){o:Option Operand}{l:Option Int}(h:Eb ρ o=some l)(d:Int):
  (o.map ρc=none∧l.getD d=d)∨∃ k,o.map ρc=some (.int k (l.getD d)):=by
 rcases Nj hr h with⟨h1,rfl⟩|⟨k,n,h1,rfl⟩
 ·exact .inl ⟨h1,rfl⟩
 ·exact .inr ⟨k,h1⟩
theorem Ec{w w':World}{ρc:Operand→Value}{o:Oper}{T:TypeId}{x:Operand}{lo up:Option Operand}{v u:Value}(hop:o.op = .slice T x lo up none)(e1:ρc x=v)
  (hrun:(Instr.sliceAt T v (lo.map ρc) (up.map ρc) none).run P w = .ok u w'):(execOp ρc o).run P w = .ok (.value u) w':=by simp[execOp,hop,e1,hrun]
theorem Xs(T:TypeId)(x:Operand)(lo up:Option Operand):Claim P E (.slice T x lo up none):=by
 intro R ty ρ H fz slot k r h
 simp only[evalOp]at h
 split at h
 ·rename_i e hu
  split at h
  ·rename_i l h' hl hh
   unfold Gb at h
   split at h
   ·rename_i t xs hx
    split at h
    ·rename_i hsz
     split at h
     ·cases h
     ·rename_i ys hs
      refine⟨_,_,h,fun R' k'=>by simp only[evalOp,hu,hl,hh,Gb,hx,hsz,hs],AX fun w F m ρc o hop hty hi hr => ?_⟩
      obtain⟨a1,a2,a3,rfl⟩:=Hf hs
      simp only[Aok]at hsz
      obtain⟨i,hi0,hsz'⟩:=BE hsz
      have hrx:=hr x
      rw[hx]at hrx
      have hrx:Dat w F (.slice t) xs [ρc x]:=hrx
      obtain⟨a,cap,e1,e2,e3⟩:=hrx
      simp only[Ao4,ArN]at e1
      have hrun:=DO (P:=P) (w:=w) hu hi0 a (List.length (α:=t.den) xs) cap (Qs hr hl 0) (Qs hr hh (AK xs)) a1 a2 (by omega) e2
      refine⟨_,Ec hop e1 hrun,?_⟩
      have hlen:((xs.take (h'.getD (AK xs)).toNat).drop (l.getD 0).toNat).length=(h'.getD (AK xs)).toNat-(l.getD 0).toNat:=by
       rw[ApW,Ao8];omega
      show Dat w F (.slice t) _ [_]
      refine⟨_,_,by rw[hlen],by rw[hlen];omega,fun hne => ?_⟩
      have hpos:(l.getD 0).toNat<(h'.getD (AK xs)).toNat:=by
       rcases ApT (l.getD 0).toNat (h'.getD (AK xs)).toNat with hh'|hh'
       ·exact hh'
       ·exact absurd (Ao6 (by rw[hlen];omega)) hne
      have hxne:xs≠[]:=by rintro rfl;simp at hne
      obtain⟨ad,row,q1,q2,q3,q4⟩:=e3 hxne
      have hk:=fun(x:t.den) cs (h:Dat w F t x cs)=>Dat.length t h
      refine⟨ad.add ((l.getD 0).toNat*t.size),_,?_,by rw[Hp];exact q2,Hh hk (l.getD 0).toNat (Dw hk (h'.getD (AK xs)).toNat q3),fun j u hu' => ?_⟩
      ·rw[Aor (by omega),q1,hsz'];rfl
      ·rw[add_add]
       rw[Apk,ApU]at hu'
       split at hu'
       ·exact q4 _ u hu'
       ·cases hu'
    ·cases h
   ·rename_i t hx
    split at h
    ·rename_i hss
     split at h
     ·rename_i ys hs
      refine⟨_,_,h,fun R' k'=>by simp only[evalOp,hu,hl,hh,Gb,hx,hss,hs],AX fun w F m ρc o hop hty hi hr => ?_⟩
      obtain⟨a1,a2,a3,_⟩:=Hf hs
      obtain⟨sz,hsz⟩:=Ap8.1 hss
      obtain⟨i,hi0,hsz'⟩:=BE hsz
      have hrx:=hr x
      rw[hx]at hrx
      unfold Rep at hrx
      simp only[ApA]at a3
      have hrun:=DO (P:=P) (w:=w) hu hi0 none 0 0 (Qs hr hl 0) (Qs hr hh 0) a1 a2 a3 (Aop _)
      refine⟨_,Ec hop hrx hrun,?_⟩
      unfold Rep
      have h1:(l.getD 0).toNat=0:=by omega
      have h2:(h'.getD 0).toNat=0:=by omega
      rw[h1,h2];rfl
     ·cases h
    ·cases h
   ·rename_i id hx
    split at h
    ·rename_i T' t xs ho
     split at h
     ·rename_i hsz
      split at h
      ·cases h
      ·rename_i ys hs
       refine⟨_,_,h,fun R' k'=>by simp only[evalOp,hu,hl,hh,Gb,hx,ho,hsz,hs],AX fun w F m ρc o hop hty hi hr => ?_⟩
       obtain⟨a1,a2,a3,rfl⟩:=Hf hs
       simp only[Aok]at hsz
       obtain⟨i,hi0,hsz'⟩:=BE hsz
       have hrx:=hr x
       rw[hx]at hrx
       unfold Rep at hrx
       rw[ho]at hrx
       have hlen:((xs.take (h'.getD (AK xs)).toNat).drop (l.getD 0).toNat).length=(h'.getD (AK xs)).toNat-(l.getD 0).toNat:=by
        rw[ApW,Ao8];omega
       obtain⟨hpos,hob⟩:=hi.obj id _ ho
       cases hm:m id with
       |none=>
        rw[hm]at hrx hob
        obtain⟨a,e1⟩:=hrx
        simp only at hob;subst hob
        have hrun:=DO (P:=P) (w:=w) hu hi0 a 0 0 (Qs hr hl 0) (Qs hr hh (AK ([]:List t.den))) a1 a2 (by simpa using a3) (Aop _)
        refine⟨_,Ec hop e1 hrun,?_⟩
        unfold Rep
        rw[ho,hm]
        simp only[ApA]at a3
        have q1:(l.getD 0).toNat=0:=by omega
        have q2:(h'.getD (AK ([]:List t.den))).toNat=0:=by omega
        rw[q1,q2]
        exact And.intro (by simp[AO,q1,AK]) ⟨_,by simp[AO,AK];rfl⟩
       |some p=>
        obtain⟨b,cap⟩:=p
        rw[hm]at hrx hob
        obtain⟨vs,row,e1,e2,_⟩:=hob
        simp only[A8]at hrx
        have hrun:=DO (P:=P) (w:=w) hu hi0 (some ⟨b,0,none⟩) (List.length (α:=t.den) xs) cap (Qs hr hl 0) (Qs hr hh (AK xs)) a1 a2 (by omega) e2
        refine⟨_,Ec hop hrx hrun,?_⟩
        unfold Rep
        rw[ho,hm]
        have q:AO (AK ((xs.take (h'.getD (AK xs)).toNat).drop (l.getD 0).toNat))=(h'.getD (AK xs)).toNat-(l.getD 0).toNat:=by
         unfold AO AK;rw[Apb];exact hlen
        rw[q]
        refine⟨by unfold AO;omega,_,rfl,fun hlt => ?_⟩
        unfold AO at hlt ⊢
        rw[Aor (by omega),← hsz']
        simp[B7]
     ·cases h
    ·cases h
   ·rename_i id off n hx
    split at h
    ·rename_i T' t xs ho
     split at h
     ·rename_i hsz
      split at h
      ·cases h
      ·rename_i ys hs
       refine⟨_,_,h,fun R' k'=>by simp only[evalOp,hu,hl,hh,Gb,hx,ho,hsz,hs],AX fun w F m ρc o hop hty hi hr => ?_⟩
       obtain⟨a1,a2,a3,rfl⟩:=Hf hs
       simp only[Aok]at hsz
       obtain⟨i,hi0,hsz'⟩:=BE hsz
       have hrx:=hr x
       rw[hx]at hrx
       unfold Rep at hrx
       rw[ho]at hrx
       obtain⟨hle,hrx⟩:=hrx
       have hcl:(DS off n xs).length=n:=by unfold DS;rw[Ao8,ApW];omega
       rw[hcl]at a3
       have q:AO (AK (((DS off n xs).take (h'.getD (n:Int)).toNat).drop (l.getD 0).toNat))=(h'.getD (n:Int)).toNat-(l.getD 0).toNat:=by
        unfold AO AK;rw[Apb,ApW,Ao8,hcl];omega
       obtain⟨hpos,hob⟩:=hi.obj id _ ho
       cases hm:m id with
       |none=>
        rw[hm]at hrx hob
        obtain⟨a,e1⟩:=hrx
        simp only at hob;subst hob
        have hn:n=0:=by have:=hle;simp at this;exact this.2
        subst hn
        have hrun:=DO (P:=P) (w:=w) hu hi0 a 0 0 (Qs hr hl 0) (Qs hr hh ((0:Nat):Int)) a1 a2 a3 (Aop _)
        refine⟨_,Ec hop e1 hrun,?_⟩
        unfold Rep
        rw[ho,hm,q]
        have q1:(l.getD 0).toNat=0:=by omega
        have q2:(h'.getD ((0:Nat):Int)).toNat=0:=by omega
        have hoff:off=0:=by have:=hle;simpa using this
        rw[q1,q2]
        exact And.intro (by simp[AO,q1,hoff]) ⟨_,by simp;rfl⟩
       |some p=>
        obtain⟨b,cap⟩:=p
        rw[hm]at hrx hob
        obtain⟨vs,row,e1,e2,_⟩:=hob
        obtain⟨a,e3,e4⟩:=hrx
        have hrun:=DO (P:=P) (w:=w) hu hi0 a n (cap-off) (Qs hr hl 0) (Qs hr hh (n:Int)) a1 a2 (by omega) (by omega)
        refine⟨_,Ec hop e3 hrun,?_⟩
        unfold Rep
        rw[ho,hm,q]
        refine And.intro (by unfold AO;omega) ⟨if cap-off=(l.getD 0).toNat then a else a.map (·.add ((l.getD 0).toNat*i.size)),?_,fun hlt => ?_⟩
        ·unfold AO;congr 1;omega
        ·unfold AO at hlt ⊢
         rw[Aor (by omega),e4 (by omega),hsz']
         simp[B7,Api]
     ·cases h
    ·cases h
   ·cases h
  ·cases h
 ·rename_i n e hu
  split at h
  ·rename_i l h' id n' hmx hl hh hx
   split at h
   ·rename_i T' t xs ho
    split at h
    ·rename_i hc
     split at h
     ·cases h
     ·rename_i ys hs
      refine⟨_,_,h,fun R' k'=>by simp only[evalOp,hu,hl,hh,hx,ho,hc,hs],AX fun w F m ρc o hop hty hi hr => ?_⟩
      obtain⟨a1,a2,a3,rfl⟩:=Hf hs
      simp only[Aol,Aok]at hc
      obtain⟨rfl,hsz⟩:=hc
      obtain⟨i,hi0,hsz'⟩:=BE hsz
      have hrx:=hr x
      rw[hx]at hrx
      unfold Rep Fg at hrx
      rw[ho]at hrx
      obtain⟨hlen,b,hm,e1⟩:=hrx
      have hb:=ACr (P:=P) (w:=w) n' (Qs hr hl 0) ((Qs hr hh (AK xs)).imp (fun q=>⟨q.1,q.2.trans (by unfold AK;rw[hlen])⟩) (fun q=>q)) a1 a2 (by omega)
      refine⟨_,Ec hop e1 (by simp only[Instr.sliceAt,Sem.run_bind,run_underlying hu,Result.andThen_ok,Instr.sureAddr,hb,run_sizeOf hi0,Sem.run_pure];rfl),?_⟩
      unfold Rep
      rw[ho,hm]
      have q:AO (AK ((xs.take (h'.getD (AK xs)).toNat).drop (l.getD 0).toNat))=(h'.getD (AK xs)).toNat-(l.getD 0).toNat:=by
       unfold AO;generalize h'.getD (AK xs)=hh' at a2 a3 ⊢;unfold AK;rw[Apb,ApW,Ao8];omega
      rw[q]
      refine And.intro (by unfold AO;omega) ⟨_,rfl,fun hlt => ?_⟩
      unfold AO at hlt ⊢
      rw[Aor (by omega),hsz',B7,Aph]
    ·cases h
   ·cases h
  ·cases h
 ·cases h
end
end Go.Pev
end
