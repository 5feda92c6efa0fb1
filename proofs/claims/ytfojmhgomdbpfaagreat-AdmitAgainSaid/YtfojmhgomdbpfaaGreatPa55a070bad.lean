/- A part of the proofs of this seat: ALIAS PevDefs PevEval PevLoop PevSem PevStep PevConv PevRun PevOps PevPrs0 PevOps2 PevOps3 PevOps4 PevOps5 PevOps6 PevOps7 PevOps8 PevOps9 PevOps10 PevKeep PevPrs. -/
import Derived.Calls
import Derived.Laws.Sem
import Derived.Orders
import Derived.Below
import Derived.Laws.AppendOwn
import Derived.Laws.Entries
import Derived.Maps.AppendAt
import Derived.Laws.Small
import Derived.Laws.StructEq
import Derived.IntWalk
set_option linter.unusedVariables false
set_option linter.unusedSimpArgs false
set_option linter.unusedSectionVars false
set_option maxRecDepth 100000
section
namespace Go.Pev
abbrev ApL:=@decide_eq_false
abbrev ApM:=@decide_eq_true
abbrev ApN:=@Option.some.injEq
abbrev ApO:=@List.getElem?_eq_getElem
abbrev ApP:=@List.getD_eq_getElem?_getD
abbrev ApQ:=@decide_eq_true_eq
abbrev ApR:=@List.mem_append
abbrev ApS:=@List.length_append
abbrev ApT:=@List.mem_cons
abbrev ApU:=@Bool.and_eq_true
abbrev ApV:=@if_neg
abbrev ApW:=@List.length_cons
abbrev ApX:=@Bool.not_true
abbrev ApY:=@Nat.le_refl
abbrev ApZ:=@if_pos
abbrev Apa:=@Int.eq_ofNat_of_zero_le
abbrev Apb:=@List.mem_of_getElem?
abbrev Apc:=@Bool.false_eq_true
abbrev Apd:=@List.getElem?_eq_some_iff
abbrev Ape:=@Option.map_eq_some_iff
abbrev Apf:=@if_false
abbrev Apg:=@List.mem_filter
abbrev Aph:=@List.mem_map
abbrev Api:=@List.length_take
abbrev Apj:=@Prod.mk.injEq
abbrev Apk:=@List.length_nil
abbrev Apl:=@Array.length_toList
abbrev Apm:=@List.getElem?_eq_none
abbrev Apn:=@decide_true
abbrev Apo:=@List.cons.injEq
abbrev Apq:=@List.eq_nil_of_length_eq_zero
abbrev Apr:=@List.length_map
abbrev Aps:=@List.cons_append
abbrev Apt:=@List.all_eq_true
abbrev Apu:=@List.getElem?_append_left
abbrev Apv:=@List.mem_cons_of_mem
abbrev Apw:=@List.nodup_cons
abbrev Apx:=@List.getElem?_append_right
abbrev Apy:=@List.length_range
abbrev Apz:=@List.mem_range
abbrev Ap0:=@List.getElem?_map
abbrev Ap1:=@List.append_assoc
abbrev Ap2:=@List.map_cons
abbrev Ap3:=@List.take_length
abbrev Ap4:=@List.mem_singleton
abbrev Ap5:=@Bool.not_false
abbrev Ap6:=@if_true
abbrev Ap7:=@List.flatMap_cons
abbrev Ap8:=@decide_false
abbrev Ap9:=@List.nil_append
abbrev AqA:=@Option.bind_eq_some_iff
abbrev AqB:=@Option.bind_some
abbrev AqC:=@Nat.mul_le_mul_right
abbrev AqD:=@List.length_replicate
abbrev AqE:=@Array.getD_eq_getD_getElem?
abbrev AqF:=@List.drop_eq_getElem_cons
abbrev AqG:=@List.range_succ
abbrev AqH:=@Ne.symm
abbrev AqI:=@Option.getD_some
abbrev AqJ:=@List.take_of_length_le
abbrev AqK:=@List.getElem?_take
abbrev AqL:=@Nat.eq_zero_or_pos
abbrev AqM:=@Int.toNat_natCast
abbrev AqN:=@Nat.le_trans
abbrev AqO:=@List.map_append
abbrev AqP:=@Option.some.inj
abbrev AqQ:=@decide_eq_false_iff_not
abbrev AqR:=@List.getElem?_drop
abbrev AqS:=@List.length_drop
abbrev AqT:=@List.foldl_cons
abbrev AqU:=@List.getElem?_set_ne
abbrev AqV:=@Nat.lt_or_ge
abbrev AqW:=@Nat.add_mul
abbrev AqX:=@List.take_append_drop
abbrev AqY:=@List.ext_getElem?
abbrev AqZ:=@List.pairwise_cons
abbrev Aqa:=@List.append_nil
abbrev Aqb:=@List.length_set
abbrev Aqc:=@List.filter_cons
abbrev Aqd:=@List.getElem?_cons_zero
abbrev Aqe:=@Nat.zero_add
abbrev Aqf:=@Array.getElem?_eq_getElem
abbrev Aqg:=@List.size_toArray
abbrev Aqh:=@List.filter_append
abbrev Aqi:=@Nat.eq_of_beq_eq_true
abbrev Aqj:=@List.flatMap_append
abbrev Aqk:=@decide_eq_decide
abbrev Aql:=@Classical.byContradiction
abbrev Aqm:=@List.pairwise_iff_getElem
abbrev Aqn:=@Nat.min_eq_left
abbrev Aqo:=@Bool.eq_iff_iff
abbrev Aqp:=@Nat.add_zero
abbrev Aqq:=@Array.toList_map
abbrev Aqr:=@List.take_succ_eq_append_getElem
abbrev Aqs:=@List.getElem?_range
abbrev Aqt:=@List.flatten_cons
abbrev Aqu:=@not_true_eq_false
abbrev Aqv:=@List.mem_of_mem_drop
abbrev Aqw:=@decide_eq_true_iff
abbrev Aqx:=@List.drop_of_length_le
abbrev Aqy:=@congrArg
abbrev Aqz:=@List.nodup_range
abbrev Aq0:=@List.getElem_of_mem
abbrev Aq1:=@List.nodup_append
abbrev Aq2:=@List.getElem?_set
abbrev Aq3:=@Option.isSome_iff_exists
abbrev Aq4:=@Nat.one_mul
abbrev Aq5:=@Bool.or_eq_true
abbrev Aq6:=@List.contains_eq_mem
abbrev Aq7:=@Nat.mul_le_mul
abbrev Aq8:=@Bool.not_eq_true'
abbrev Aq9:=@List.map_congr_left
abbrev ArA:=@Nat.lt_of_lt_of_le
abbrev ArB:=@List.map_nil
abbrev ArC:=@Nat.mod_eq_of_lt
abbrev ArD:=@List.getElem_mem
abbrev ArE:=@beq_iff_eq
abbrev ArF:=@List.drop_drop
abbrev ArG:=@Array.toArray_toList
abbrev ArH:=@List.getLast?_concat
abbrev ArI:=@List.foldl_append
abbrev ArJ:=@List.pairwise_map
abbrev ArK:=@Int.natCast_mul
abbrev ArL:=@Int.min_eq_left
abbrev ArM:=@Array.toList_append
abbrev ArN:=@Nat.zero_le
abbrev ArO:=@List.getElem?_set_self
abbrev ArP:=@List.findIdx_lt_length
abbrev ArQ:=@Nat.add_assoc
abbrev ArR:=@List.take_append
abbrev ArS:=@and_true
abbrev ArT:=@List.mem_flatMap
abbrev ArU:=@List.any_eq_true
abbrev ArV:=@List.countP_cons
abbrev ArW:=@Int.max_eq_right
abbrev ArX:=@List.tail_cons
abbrev ArY:=@List.length_filter_le
abbrev ArZ:=@List.perm_append_comm
abbrev Ara:=@Nat.zero_mul
abbrev Arb:=@Nat.sub_self
abbrev Arc:=@List.eq_of_mem_replicate
abbrev Ard:=@List.getElem?_of_mem
abbrev Are:=@of_decide_eq_true
abbrev Arf:=@List.take_take
abbrev Arh:=@List.not_mem_nil
abbrev Ari:=@Option.map_some
abbrev Arj:=@Array.getElem?_toList
abbrev Ark:=@Int.tdiv_eq_ediv_of_nonneg
abbrev Arl:=@List.perm_ext_iff_of_nodup
abbrev Arm:=@List.filter_congr
abbrev Arn:=@List.countP_congr
abbrev Aro:=@List.take_add_one
abbrev Arp:=@Classical.not_not
abbrev Arq:=@List.mem_of_mem_take
abbrev Arr:=@BitVec.ofInt_natCast
abbrev Ars:=@List.getLast?_append
abbrev Art:=@List.take_left
abbrev Aru:=@List.ext_getElem
abbrev Arv:=@List.Perm.eq_of_pairwise
abbrev Arw:=@Int.min_eq_right
abbrev Arx:=@List.replicate_succ
abbrev Ary:=@List.flatten_append
abbrev Arz:=@List.filter_eq_self
abbrev Ar0:=@List.filterMap_cons
abbrev Ar1:=@List.getElem?_cons_succ
abbrev Ar2:=@List.eraseIdx_cons_succ
abbrev Ar3:=@List.sum_cons
abbrev Ar4:=@List.append_of_mem
abbrev Ar5:=@List.range_zero
abbrev Ar6:=@Nat.mod_lt
abbrev Ar7:=@BitVec.toNat_ofNat
abbrev Ar8:=@true_and
abbrev Ar9:=@List.getLast?_eq_some_getLast
abbrev AsA:=@Nat.lt_trichotomy
abbrev AsB:=@List.getElem?_inj
abbrev AsC:=@List.findIdx_cons
abbrev AsD:=@List.drop_zero
abbrev AsE:=@List.singleton_append
abbrev AsF:=@Nat.le_of_ble_eq_true
abbrev AsG:=@Nat.le_of_lt
abbrev AsH:=@Nat.succ_mul
abbrev AsI:=@false_and
abbrev AsJ:=@List.Pairwise.filter
abbrev AsK:=@List.pairwise_append
abbrev AsL:=@List.findIdx_getElem
abbrev AsM:=@Nat.pow_le_pow_right
abbrev AsN:=@List.drop_one
abbrev AsO:=@Bool.and_self
abbrev AsP:=@Array.toList_modify
abbrev AsQ:=@Array.mapM_eq_mapM_toList
abbrev AsR:=@List.extract_eq_take_drop
abbrev AsS:=@List.mem_take_iff_getElem
abbrev AsT:=@List.getLast?_eq_some_iff
abbrev AsU:=@List.isEmpty_eq_false_iff
abbrev AsV:=@Nat.two_pow_pos
abbrev AsW:=@Int.max_eq_left
abbrev AsX:=@or_false
abbrev AsY:=@List.Perm.refl
abbrev AsZ:=@Nat.le_mul_of_pos_right
abbrev Asa:=@Nat.add_sub_cancel_left
abbrev Asb:=@List.getElem?_replicate
abbrev Asc:=@List.getLast?_cons_cons
abbrev Asd:=@List.mem_range'_1
abbrev Ase:=@Option.map_eq_none_iff
abbrev Asf:=@Int.le_refl
abbrev Asg:=@List.drop_append
abbrev Ash:=@List.flatMap_nil
abbrev Asi:=@Nat.max_eq_right
end Go.Pev
end
section
namespace Go.Pev
inductive Ty where
 |unit|bool
 |int (k:IntKind)
 |slice (e:Ty)
 |prod (a b:Ty)
 |arr (n:Nat) (e:Ty)
 |nul (e:Ty)
 deriving DecidableEq
@[reducible] def Ty.den:Ty→Type
 |.unit=>Unit
 |.bool=>Bool
 |.int _=>Int
 |.slice e=>List e.den
 |.prod a b=>a.den×b.den
 |.arr _ e=>List e.den
 |.nul _=>Unit
def Ty.size:Ty→Nat
 |.unit=>0
 |.bool=>1
 |.int _=>1
 |.slice _=>1
 |.prod a b=>a.size+b.size
 |.arr n e=>n*e.size
 |.nul _=>1
def Ty.isAgg:Ty→Bool
 |.unit=>true
 |.prod _ _=>true
 |.arr _ _=>true
 |_=>false
def Ty.made(b:Bool):Ty→Ty
 |.slice e=>match b with
  |true=>.nul e
  |false=>.slice e
 |t=>t
def Ty.nul? : (t:Ty)→Option Ty
 |.nul e=>some e
 |_=>none
def Ty.zero:(t:Ty)→t.den
 |.unit=>()
 |.bool=>false
 |.int _=>(0:Int)
 |.slice _=>[]
 |.prod a b=>(a.zero,b.zero)
 |.arr n e=>List.replicate n e.zero
 |.nul _=>()
def Ty.flat:Ty→Bool
 |.unit=>true
 |.bool=>true
 |.int _=>true
 |.slice _=>false
 |.prod a b=>a.flat&&b.flat
 |.arr _ e=>e.flat
 |.nul _=>true
inductive AV where
 |junk
 |data (t:Ty) (d:t.den)
 |nils (e:Ty)
 |agg (cs:List AV)
 |own (id:Nat)
 |win (id off n:Nat)
 |ptr (id off:Nat)
 |eptr (id i sub:Nat)
 |dptr (cs:List AV)
 |clo (f:FuncId) (caps:List AV)
 |bnd (f:FuncId) (fs:List AV)
 |str (xs:List Int)
 |clip (t:Ty) (xs:List t.den)
 |mp (id:Nat)
 |tup (vs:List AV)
inductive Ob where
 |free
 |dead
 |box (cs:List AV)
 |arr (T:TypeId) (t:Ty) (xs:List t.den)
 |map (k v:Ty) (es:List (k.den×v.den))
 |prs (T:TypeId) (tgt:Nat) (is:List Int)
def FY(tgt:Nat)(is:List Int):List AV:=is.map fun i=>.eptr tgt i.toNat 0
structure St where
 tmps:List AV
 heap:List Ob
 frz:List Bool
structure Eff where
 heap:Option (List Ob×List Bool):=none
 objs:List (Nat×Ob):=[]
 frz:List Nat:=[]
def AM{α:Type}(xs:List α):Int:=(xs.length:Int)
def Az{α:Type}(xs:List α)(i:Nat)(x:α):List α:=xs.set i x
def AY{α:Type}(xs:List α)(i:Nat)(z:α):α:=xs.getD i z
def BX{α:Type}(xs ys:List α):List α:=xs++ys
def Bu{α:Type}(n:Nat)(xs:List α):List α:=xs.take n
def F7{α:Type}(off n:Nat)(xs:List α):List α:=(xs.drop off).take n
def D3{α:Type}(n:Nat)(x:α):List α:=List.replicate n x
def AN(n:Int):Nat:=n.toNat
def Br{α:Type}(off n:Nat)(z:α)(xs:List α):List α:=xs.take off++(List.replicate n z++xs.drop (off+n))
def AEu:Operand→Option ByteArray
 |.const (.string s)=>some s
 |_=>none
def bytesOf(s:ByteArray):List Int:=s.data.toList.map fun b=>(b.toNat:Int)
def AEm(xs:List Int):List Int:=xs.map fun n=>((UInt8.ofNat n.toNat).toNat:Int)
def B4(a b:Int):Int:=if b<a then b else a
def imax(a b:Int):Int:=if b > a then b else a
noncomputable def lock{α:Type}(x:α):α:=Classical.choose (⟨x,rfl⟩:∃ y,y=x)
theorem AJ{α:Type}(x:α):lock x=x:=Classical.choose_spec (⟨x,rfl⟩:∃ y,y=x)
class Lk where
 f:{α:Type}→α→α
noncomputable instance lockI:Lk:=⟨fun x=>lock x⟩
abbrev idI:Lk:=⟨fun x=>x⟩
theorem ADK:lockI=idI:=by
 unfold lockI idI
 congr
 funext α x
 exact AJ x
def OR{α:Type}(xs:List α)(i:Int):Option α:=if i<0 then none else xs[i.toNat]?
def idx[Lk]{α:Type}(xs:List α)(i:Int):Option α:=Lk.f (OR xs i)
theorem idx_eq{α:Type}(xs:List α)(i:Int):idx xs i=OR xs i:=AJ _
def Oa{α:Type}(xs:List α)(l h:Int):Option (List α):=
 if 0≤l∧l≤h∧h≤xs.length then some ((xs.take h.toNat).drop l.toNat)else none
def EF[Lk]{α:Type}(xs:List α)(l h:Int):Option (List α):=Lk.f (Oa xs l h)
theorem ZP{α:Type}(xs:List α)(l h:Int):EF xs l h=Oa xs l h:=AJ _
def ilt[Lk](a b:Int):Bool:=Lk.f (decide (a<b))
def ile[Lk](a b:Int):Bool:=Lk.f (decide (a≤b))
def ieq[Lk](a b:Int):Bool:=Lk.f (a==b)
theorem Af(a b:Int):ilt a b=decide (a<b):=AJ _
theorem An(a b:Int):ile a b=decide (a≤b):=AJ _
def AjV(a b:Int):Bool:=decide (a<b)
def AjW(a b:Int):Bool:=decide (a≤b)
def AjY(a b:Int):Bool:=a==b
theorem CN(a b:Int):ieq a b=(a==b):=AJ _
def Aln(a b:List Int):Bool:=a==b
def seq?[Lk](a b:List Int):Bool:=Lk.f (Aln a b)
theorem seq_eq(a b:List Int):seq? a b=Aln a b:=AJ _
def BH:(t:Ty)→t.den→List AV
 |.unit,_=>[]
 |.bool,b=>[.data .bool b]
 |.int k,n=>[.data (.int k) n]
 |.slice e,xs=>[.data (.slice e) xs]
 |.prod a b,d=>BH a d.1++BH b d.2
 |.arr n e,xs=>(List.range n).flatMap fun i=>BH e (AY xs i e.zero)
 |.nul e,_=>[.nils e]
def zeroCells:Ty→List AV
 |.unit=>[]
 |.bool=>[.data .bool false]
 |.int k=>[.data (.int k) (0:Int)]
 |.slice e=>[.nils e]
 |.prod a b=>zeroCells a++zeroCells b
 |.arr n e=>(List.replicate n (zeroCells e)).flatten
 |.nul e=>[.nils e]
def cast{t t':Ty}(d:t.den):Option t'.den:=if h:t=t' then some (h▸d)else none
def YK{t t':Ty}(d:List t.den):Option (List t'.den):=if h:t=t' then some (h▸d)else none
def Dz(H:List Ob)(t:Ty)(v:AV):Option (t.den×List Nat):=
 match v with
 |.data _ d=>(cast d:Option t.den).map fun x=>(x,[])
 |.clip e xs=>(cast (t:=.slice e) xs:Option t.den).map fun x=>(x,[])
 |.nils _=>match t with
  |.slice _=>some ([],[])
  |.nul _=>some ((),[])
  |_=>none
 |.own id=>match H[id]? with
  |some (.arr _ e xs)=>(cast (t:=.slice e) xs:Option t.den).map fun x=>(x,[id])
  |_=>none
 |.win id off n=>match H[id]? with
  |some (.arr _ e xs)=>(cast (t:=.slice e) (F7 off n xs):Option t.den).map fun x=>(x,[id])
  |_=>none
 |_=>none
def RT{α:Type}(one:List AV→Option (α×List Nat×List AV)):Nat→List AV→Option (List α×List Nat×List AV)
 |0,cs=>some ([],[],cs)
 |n+1,cs=>match one cs with
  |none=>none
  |some (x,f,cs)=>match RT one n cs with
   |none=>none
   |some (xs,g,cs)=>some (x::xs,f++g,cs)
def As(H:List Ob):(t:Ty)→List AV→Option (t.den×List Nat×List AV)
 |.unit,cs=>some ((),[],cs)
 |.bool,c::cs=>match Dz H .bool c with
  |none=>none
  |some (x,f)=>some (x,f,cs)
 |.int k,c::cs=>match Dz H (.int k) c with
  |none=>none
  |some (x,f)=>some (x,f,cs)
 |.slice e,c::cs=>match Dz H (.slice e) c with
  |none=>none
  |some (x,f)=>some (x,f,cs)
 |.prod a b,cs=>match As H a cs with
  |none=>none
  |some (x,f,cs)=>match As H b cs with
   |none=>none
   |some (y,g,cs)=>some ((x,y),f++g,cs)
 |.arr n e,cs=>RT (As H e) n cs
 |.nul e,c::cs=>match Dz H (.nul e) c with
  |none=>none
  |some (x,f)=>some (x,f,cs)
 |_,[]=>none
def asAgg(H:List Ob)(t:Ty)(v:AV):Option (t.den×List Nat):=
 match v with
 |.data _ d=>(cast d:Option t.den).map fun x=>(x,[])
 |.agg cs=>match As H t cs with
  |some (x,f,[])=>some (x,f)
  |_=>none
 |_=>none
def FE(H:List Ob)(t:Ty)(v:AV):Option (t.den×List Nat):=
 match t.isAgg with
 |true=>asAgg H t v
 |false=>Dz H t v
@[reducible] def Ci:List Ty→Type
 |[]=>Unit
 |t::ts=>t.den×Ci ts
abbrev Spec:=(R:Type)→List AV→List Ob→List Bool→Nat→(AV→Eff→Option R)→Option R
abbrev AUo:=(R:Type)→St→(Exit→St→Option R)→Option R
def AGV(P:Program):Nat→TypeId→Option Ty
 |0,_=>none
 |n+1,t=>match P.underlying t with
  |some .bool=>some .bool
  |some (.int k)=>some (.int k)
  |some (.slice e)=>(AGV P n e).map .slice
  |some (.array c e)=>(AGV P n e).map (.arr c)
  |some (.struct fs)=>(fs.toList.mapM fun f=>AGV P n f.type).map fun ts=>ts.foldr Ty.prod .unit
  |_=>none
def AU4(P:Program)(t:TypeId):Option Ty:=AGV P 12 t
def sliceAt(P:Program)(t:TypeId):Option (TypeId×Ty):=
 match P.underlying t with
 |some (.slice e)=>match AU4 P e with
  |some x=>match decide (0<x.size)with
   |true=>some (e,x)
   |false=>none
  |none=>none
 |_=>none
def D5(P:Program)(t:TypeId):Option Bool:=
 match P.underlying t with
 |some (.struct _)=>some true
 |some (.array _ _)=>some true
 |some _=>some false
 |none=>none
def DJ:AV→Value→Bool
 |.data .bool b,.bool c=>b==c
 |.data (.int k) n,.int k' m=>(decide (k=k'))&&(n==m)
 |.nils _,.slice none 0 0=>true
 |_,_=>false
def Bp:List AV→List Value→Bool
 |[],[]=>true
 |a::asz,v::vs=>DJ a v&&Bp asz vs
 |_,_=>false
def ADU:Value→Bool
 |.agg _=>true
 |_=>false
def zeroAt(P:Program)(T:TypeId):Option (Ty×List AV):=
 match AU4 P T,P.info? T with
 |some t,some i=>match i.zero with
  |some z=>if Bp (zeroCells t) z.cells.toList&&(i.size==t.size)&&(t.isAgg==ADU z)then some (t,zeroCells t)else none
  |none=>none
 |_,_=>none
def AN1:Value→AV
 |.bool b=>.data .bool b
 |.int k n=>.data (.int k) n
 |.slice none 0 0=>.nils .unit
 |.string s=>.str (bytesOf s)
 |_=>.junk
def BL(tmps:List AV):Operand→AV
 |.tmp t=>tmps.getD t .junk
 |.const v=>AN1 v
 |.func f=>.clo f []
 |.global _=>.junk
def cells? : AV→Option (List AV)
 |.junk=>none
 |.tup _=>none
 |.data .unit _=>some []
 |.data (.prod a b) d=>some (BH (.prod a b) d)
 |.data (.arr n e) d=>some (BH (.arr n e) d)
 |.agg cs=>some cs
 |v=>some [v]
noncomputable def AZv(op:BinOp)(k:IntKind)(a b:Int):Option AV:=
 match op with
 |.add=>some (.data (.int k) (k.wrap (a+b)))
 |.sub=>some (.data (.int k) (k.wrap (a-b)))
 |.mul=>some (.data (.int k) (k.wrap (a*b)))
 |.and=>some (.data (.int k) (k.wrap (BitVec.ofInt k.bits a &&& BitVec.ofInt k.bits b).toNat))
 |.or=>some (.data (.int k) (k.wrap (BitVec.ofInt k.bits a ||| BitVec.ofInt k.bits b).toNat))
 |.xor=>some (.data (.int k) (k.wrap (BitVec.ofInt k.bits a ^^^ BitVec.ofInt k.bits b).toNat))
 |.andNot=>some (.data (.int k) (k.wrap (BitVec.ofInt k.bits a &&& ~~~(BitVec.ofInt k.bits b)).toNat))
 |.eql=>some (.data .bool (ieq a b))
 |.neq=>some (.data .bool (!(ieq a b)))
 |.lss=>some (.data .bool (ilt a b))
 |.leq=>some (.data .bool (ile a b))
 |.gtr=>some (.data .bool (ilt b a))
 |.geq=>some (.data .bool (ile b a))
 |_=>none
def Q9(k:IntKind)(a b:Int):Option Int:=if b=0 then none else some (k.wrap (a.tdiv b))
def quo?[Lk](k:IntKind)(a b:Int):Option Int:=Lk.f (Q9 k a b)
theorem Pb(k:IntKind)(a b:Int):quo? k a b=Q9 k a b:=AJ _
def AGi(a b:Int):Option Int:=if b=0 then none else some (a.tmod b)
def rem?[Lk](a b:Int):Option Int:=Lk.f (AGi a b)
theorem AWN(a b:Int):rem? a b=AGi a b:=AJ _
def Qv(k:IntKind)(a b:Int):Option Int:=if b<0 then none else some (k.wrap (a*2 ^ min b.toNat k.bits))
def shl?[Lk](k:IntKind)(a b:Int):Option Int:=Lk.f (Qv k a b)
theorem PM(k:IntKind)(a b:Int):shl? k a b=Qv k a b:=AJ _
def Yn(k:IntKind)(a b:Int):Option Int:=if b<0 then none else some (a.fdiv (2 ^ min b.toNat k.bits))
def shr?[Lk](k:IntKind)(a b:Int):Option Int:=Lk.f (Yn k a b)
theorem AA0(k:IntKind)(a b:Int):shr? k a b=Yn k a b:=AJ _
def Oy(n:Int):Bool:=Nat.ble n.toNat 4294967296
theorem VX(n:Int):Oy n=true↔n≤4294967296:=by
 unfold Oy
 rw[Nat.ble_eq]
 omega
def fits[Lk](n:Int):Bool:=Lk.f (Oy n)
theorem Am3(n:Int):fits n=Oy n:=AJ _
theorem Ge(n:Int):fits n=true↔n≤4294967296:=by rw[Am3,VX]
def LD(n:Int):Bool:=decide (0≤n)&&Nat.ble n.toNat 4294967296
theorem AYi(n:Int):LD n=true↔0≤n∧n≤4294967296:=by
 unfold LD
 rw[ApU,Nat.ble_eq,ApQ]
 omega
def CM[Lk](n:Int):Bool:=Lk.f (LD n)
theorem Aj9(n:Int):CM n=LD n:=AJ _
theorem N5(n:Int):CM n=true↔0≤n∧n≤4294967296:=by rw[Aj9,AYi]
def AMo(P:Program)(t:TypeId):Option IntKind:=
 match P.underlying t with
 |some (.int k)=>some k
 |_=>none
def DT(cs new:List AV)(off:Nat):Option (List AV):=
 if off+new.length≤cs.length then some (cs.take off++new++cs.drop (off+new.length))else none
def EX(place:Nat→Option (Nat×Nat)):List (Nat×AV)→List AV→Option (List AV)
 |[],cs=>some cs
 |(i,v)::rest,cs=>match place i with
  |none=>none
  |some (off,size)=>match cells? v with
   |none=>none
   |some vs=>match decide (vs.length=size)with
    |false=>none
    |true=>match DT cs vs off with
     |none=>none
     |some cs=>EX place rest cs
def fieldAt(P:Program)(T:TypeId)(f:Nat):Option (Nat×Nat×Bool):=
 match P.underlying T with
 |some (.struct fs)=>match fs[f]? with
  |some f=>match P.info? f.type,D5 P f.type with
   |some i,some ag=>some (f.offset,i.size,ag)
   |_,_=>none
  |none=>none
 |_=>none
def elemAt(P:Program)(T:TypeId):Option (Nat×Bool):=
 match P.underlying T with
 |some (.array _ e)=>match P.info? e,D5 P e with
  |some i,some ag=>some (i.size,ag)
  |_,_=>none
 |_=>none
def BI(P:Program)(T:TypeId):Option Nat:=(P.info? T).map (·.size)
def cellAt(P:Program)(T:TypeId):Option TypeId:=
 match P.underlying T with
 |some (.slice e)=>match P.info? e with
  |some i=>match i.zero with
   |some z=>match decide (i.size=1)&&(decide (z.cells.size=1)&&decide (i.bytes≤1024))with
    |true=>some e
    |false=>none
   |none=>none
  |none=>none
 |_=>none
def loadCells(agg:Bool)(size:Nat)(cs:List AV):Option AV:=
 match agg with
 |true=>if size≤cs.length then some (.agg (cs.take size))else none
 |false=>cs.head?
def AS{α β:Type}[DecidableEq α](es:List (α×β))(k:α):Option β:=
 match es with
 |[]=>none
 |(a,b)::es=>if a=k then some b else AS es k
def Ae{α β:Type}[DecidableEq α](es:List (α×β))(k:α)(v:β):List (α×β):=
 match es with
 |[]=>[(k,v)]
 |(a,b)::es=>if a=k then(a,v)::es else(a,b)::Ae es k v
def Dw{α β:Type}[DecidableEq α](es:List (α×β))(k:α):Option Nat:=
 match es with
 |[]=>none
 |(a,_)::es=>if a=k then some 0 else(Dw es k).map (· + 1)
def Yp{α β:Type}[DecidableEq α](es:List (α×β))(k:α):Int:=((Dw es k).getD es.length:Nat)
def Adx{α β:Type}(es:List (α×β))(i:Int)(v:β):List (α×β):=es.modify i.toNat fun e=>(e.1,v)
instance decDen:(t:Ty)→DecidableEq t.den
 |.unit=>inferInstanceAs (DecidableEq Unit)
 |.bool=>inferInstanceAs (DecidableEq Bool)
 |.int _=>inferInstanceAs (DecidableEq Int)
 |.slice e=>haveI:=decDen e;inferInstanceAs (DecidableEq (List e.den))
 |.prod a b=>@instDecidableEqProd _ _ (decDen a) (decDen b)
 |.arr _ e=>haveI:=decDen e;inferInstanceAs (DecidableEq (List e.den))
 |.nul _=>inferInstanceAs (DecidableEq Unit)
def IW(H:List Ob)(id:Nat):Bool:=
 match H[id]? with
 |some (.box _)=>true
 |_=>false
def Cl(H:List Ob)(id:Nat):Bool:=
 match H[id]? with
 |some (.arr _ _ _)=>true
 |_=>false
def Fi(H:List Ob):AV→Bool
 |.data (.slice _) _=>true
 |.nils _=>true
 |.own id=>Cl H id
 |.win id _ _=>Cl H id
 |_=>false
def YN:AV→Bool
 |.agg _=>true
 |.data t _=>t.isAgg
 |_=>false
def Au(H:List Ob)(fz:List Bool)(slot:Nat):Bool:=
 match H[slot]? with
 |some .free => !(fz.getD slot false)
 |_=>false
def Ap(fz:List Bool)(id:Nat):Bool := !(fz.getD id false)
noncomputable def GL(H:List Ob)(sz:Option Nat)(x:AV)(lo hi:Option Int):(R:Type)→(AV→Option R)→Option R:=fun _ k=>
 match x with
 |.data (.slice e) xs=>match decide (sz=some e.size)with
  |true=>match EF xs (lo.getD 0) (hi.getD (AM xs))with
   |none=>none
   |some ys=>k (.data (.slice e) ys)
  |false=>none
 |.nils e=>match sz.isSome with
  |true=>match EF ([]:List Unit) (lo.getD 0) (hi.getD 0)with
   |some _=>k (.nils e)
   |none=>none
  |false=>none
 |.own id=>match H[id]? with
  |some (.arr _ e xs)=>match decide (sz=some e.size)with
   |true=>match EF xs (lo.getD 0) (hi.getD (AM xs))with
    |none=>none
    |some ys=>k (.win id (AN (lo.getD 0)) (AN (AM ys)))
   |false=>none
  |_=>none
 |.win id off n=>match H[id]? with
  |some (.arr _ e xs)=>match decide (sz=some e.size)with
   |true=>match EF (F7 off n xs) (lo.getD 0) (hi.getD (n:Int))with
    |none=>none
    |some ys=>k (.win id (off+AN (lo.getD 0)) (AN (AM ys)))
   |false=>none
  |_=>none
 |_=>none
def AIx:AV→Option Int
 |.data (.int _) n=>some n
 |_=>none
def Hj(ρ:Operand→AV):Option Operand→Option (Option Int)
 |none=>some none
 |some x=>(AIx (ρ x)).map some
end Go.Pev
end
section
namespace Go.Pev
noncomputable section
structure Env where
 spec:FuncId→Spec
 loc:FuncId→Bool
 loc2:FuncId→Bool
 keep:Bool:=false
def A5:List (Nat×Ob)→List Ob→List Ob
 |[],H=>H
 |(i,o)::rest,H=>A5 rest (H.set i o)
def Al:List Nat→List Bool→List Bool
 |[],F=>F
 |i::rest,F=>Al rest (F.set i true)
structure Hints where
 fp:Nat→List (List Nat):=fun _=>[]
 loop:Nat→AUo:=fun _ _ _ _=>none
def slotsOf:Op→Nat
 |.alloc _=>1
 |.box ..=>1
 |.buildSlice ..=>1
 |.makeSlice ..=>1
 |.makeMap ..=>1
 |.slice _ _ _ _ (some _)=>1
 |.call { callee:=.builtin .append,.. }=>1
 |.call { callee:=.value _,.. }=>4
 |_=>0
def DA(H:List Ob)(t:Ty):List (Nat×AV)→List t.den→List Nat→Option (List t.den×List Nat)
 |[],xs,fr=>some (xs,fr)
 |(i,v)::rest,xs,fr=>match FE H t v,decide (i<xs.length)with
  |some (x,f),true=>DA H t rest (xs.set i x) (fr++f)
  |_,_=>none
def Zm(P:Program)(T:TypeId):Bool:=
 match P.underlying T with
 |some (.slice e)=>match P.underlying e with
  |some (.int .u8)=>true
  |_=>false
 |_=>false
def AaS(P:Program)(T:TypeId):Bool:=
 match P.underlying T with
 |some .string=>true
 |_=>false
def AjM(P:Program)(T:TypeId):Option Ty:=
 match P.underlying T with
 |some (.int k)=>some (.int k)
 |_=>none
def Ai3(P:Program)(T:TypeId):AV:=
 match sliceAt P T with
 |some (_,t)=>.nils t
 |none=>.nils .unit
def MR(P:Program)(t:TypeId):Bool:=
 match P.underlying t with
 |some (.int _)=>true
 |some .bool=>true
 |_=>false
def DX(P:Program):List Field→Nat→Bool
 |[],_=>true
 | f :: fs, i => (f.name != "_") && (decide (f.offset = i) && (MR P f.type && DX P fs (i + 1)))
def Hk(P:Program)(t:TypeId):Bool:=
 match P.underlying t with
 |some (.int _)=>true
 |_=>false
def structEq(P:Program)(T:TypeId):Option (List Bool):=
 match P.underlying T with
 |some (.struct fs)=>match !(P.eqGuardType P.depth T)&&(!(P.stoodInHeld T)&&DX P fs.toList 0)with
  |true=>some (fs.toList.map fun f=>Hk P f.type)
  |false=>none
 |_=>none
def Pk(P:Program):List Field→Nat→Option (List Bool)
 |[],_=>some []
 | f :: fs, i => match (f.name != "_") && decide (f.offset = i) with
  |false=>none
  |true=>match MR P f.type with
   |true=>(Pk P fs (i+1)).map (Hk P f.type :: ·)
   |false=>match P.underlying f.type with
    |some (.struct gs)=>match !(P.stoodInHeld f.type)&&(DX P gs.toList 0&&decide (BI P f.type=some gs.size))with
     |true=>(Pk P fs (i+gs.size)).map ((gs.toList.map fun g=>Hk P g.type) ++ ·)
     |false=>none
    |_=>none
def Tc(P:Program)(T:TypeId):Option (List Bool):=
 match P.underlying T with
 |some (.struct fs)=>match !(P.eqGuardType P.depth T) && !(P.stoodInHeld T)with
  |true=>Pk P fs.toList 0
  |false=>none
 |_=>none
def AX3(P:Program)(T:TypeId):Option Nat:=
 match P.info? T with
 |some i=>match i.zero with
  |some z=>match z.cells.toList.all fun u=>u.oneCell' with
   |true=>some z.cells.size
   |false=>none
  |none=>none
 |none=>none
def kinds? : Ty→Option (List Bool)
 |.unit=>some []
 |.prod (.int _) r=>(kinds? r).map (true :: ·)
 |.prod .bool r=>(kinds? r).map (false :: ·)
 |_=>none
def RJ(P:Program)(T:TypeId):Option Ty:=
 match P.underlying T with
 |some (.array n e)=>match decide (n=2),P.underlying e,decide (BI P e=some 1)with
  |true,some (.int k),true=>some (.prod (.int k) (.prod (.int k) .unit))
  |_,_,_=>none
 |_=>none
def X1(P:Program)(T:TypeId):Option Ty:=
 match AjM P T with
 |some t=>some t
 |none=>match structEq P T,AU4 P T with
  |some n,some t=>match decide (kinds? t=some n)with
   |true=>some t
   |false=>none
  |_,_=>RJ P T
noncomputable def BE:List Bool→List AV→List AV→Option Bool
 |[],[],[]=>some true
 |true::ks,.data (.int j) a::cs,.data (.int j') b::ds=>match decide (j=j'),BE ks cs ds with
  |true,some r=>some (ieq a b&&r)
  |_,_=>none
 |false::ks,.data .bool a::cs,.data .bool b::ds=>match BE ks cs ds with
  |some r=>some ((a==b)&&r)
  |none=>none
 |_,_,_=>none
def Ah3(P:Program)(T:TypeId):Option (List AV):=
 match P.info? T,P.underlying T with
 |some i,some (.struct fs)=>match i.zero with
  |some z=>match(z.cells.toList.all fun u=>u.oneCell')&&fs.toList.all fun f=>(P.info? f.type).isSome with
   |true=>some (List.replicate z.cells.size .junk)
   |false=>none
  |none=>none
 |_,_=>none
def evalOp(P:Program)(E:Env)(R:Type)(o:Op)(ty:TypeId)(ρ:Operand→AV)(H:List Ob)(fz:List Bool)(slot:Nat)(k:AV→Eff→Option R):Option R:=
 match o with
 |.move x|.assign x=>match ρ x with
  |.nils .unit=>k (Ai3 P ty) {}
  |v=>k v {}
 |.pick c a b=>match ρ c with
  |.data .bool true=>k (ρ a) {}
  |.data .bool false=>k (ρ b) {}
  |_=>none
 |.alloc T=>match zeroAt P T with
  |some (_,cs)=>(match Au H fz slot with|true=>k (.ptr slot 0) { objs:=[(slot,.box cs)] }|false=>none)
  |none=>match AX3 P T with
   |some n=>(match Au H fz slot with|true=>k (.ptr slot 0) { objs:=[(slot,.box (List.replicate n .junk))] }|false=>none)
   |none=>none
 |.box T x=>match BI P T with
  |some n=>match cells? (ρ x)with
   |some vs=>match decide (vs.length=n)with
    |true=>(match Au H fz slot with|true=>k (.ptr slot 0) { objs:=[(slot,.box vs)] }|false=>none)
    |false=>none
   |none=>none
  |none=>none
 |.build T parts=>match zeroAt P T with
  |some (_,cs)=>match P.underlying T with
   |some (.struct fs)=>match EX (fun i=>match fs[i]? with
     |some f=>(BI P f.type).map fun n=>(f.offset,n)
     |none=>none) (parts.toList.map fun p=>(p.1,ρ p.2)) cs with
    |some cs=>k (.agg cs) {}
    |none=>none
   |some (.array _ e)=>match BI P e with
    |some n=>match EX (fun i=>some (i*n,n)) (parts.toList.map fun p=>(p.1,ρ p.2)) cs with
     |some cs=>k (.agg cs) {}
     |none=>none
    |none=>none
   |_=>none
  |none=>match Ah3 P T,P.underlying T with
   |some cs,some (.struct fs)=>match EX (fun i=>match fs[i]? with
     |some f=>(BI P f.type).map fun n=>(f.offset,n)
     |none=>none) (parts.toList.map fun p=>(p.1,ρ p.2)) cs with
    |some cs=>k (.agg cs) {}
    |none=>none
   |_,_=>none
 |.buildSlice T len parts=>match sliceAt P T with
  |some (e,t)=>match zeroAt P e with
   |some _=>match decide (len*t.size≤16777216)with
    |true=>match DA H t (parts.toList.map fun p=>(p.1,ρ p.2)) (List.replicate len t.zero) []with
     |some (xs,fr)=>(match Au H (Al fr fz) slot with|true=>k (.own slot) { objs:=[(slot,.arr e t xs)],frz:=fr }|false=>none)
     |none=>none
    |false=>none
   |none=>none
  |none=>match cellAt P T,decide (len=1),parts.toList.map (fun p=>(p.1,ρ p.2))with
   |some e,true,[p]=>match p.2 with
    |.eptr tgt i sub=>match decide (p.1=0)&&(decide (sub=0)&&Cl H tgt)with
     |true=>(match Au H fz slot with|true=>k (.own slot) { objs:=[(slot,.prs e tgt [Int.ofNat i])] }|false=>none)
     |false=>none
    |_=>none
   |_,_,_=>none
 |.load T a=>match BI P T,D5 P T with
  |some n,some ag=>match ρ a with
   |.ptr id off=>match H[id]? with
    |some (.box cs)=>match loadCells ag n (cs.drop off)with
     |some v=>k v {}
     |none=>none
    |_=>none
   |.dptr cs=>match loadCells ag n cs with
    |some v=>k v {}
    |none=>none
   |.eptr id i sub=>match H[id]? with
    |some (.arr _ t xs)=>match loadCells ag n ((BH t (AY xs i t.zero)).drop sub)with
     |some v=>k v {}
     |none=>none
    |some (.prs _ tgt is)=>match(n==1)&&((sub==0) && !ag)with
     |true=>k (.eptr tgt (AN (AY is i 0)) 0) {}
     |false=>none
    |_=>none
   |_=>none
  |_,_=>none
 |.store T a x=>match BI P T,cells? (ρ x)with
  |some n,some vs=>match decide (vs.length=n)with
   |false=>none
   |true=>match ρ a with
    |.ptr id off=>match H[id]? with
     |some (.box cs)=>match DT cs vs off with
      |some cs=>k .junk { objs:=[(id,.box cs)] }
      |none=>none
     |_=>none
    |.eptr id i sub=>match H[id]? with
     |some (.arr T' t xs)=>match t.nul? with
      |some e=>match(sub==0)&&(n==1)with
       |true=>match FE H (.slice e) (ρ x)with
        |some (y,fr)=>match Ap (Al fr fz) id with
         |true=>k .junk { objs:=[(id,.arr T' (.slice e) (Az (D3 (List.length (α:=t.den) xs) []) i y))],frz:=fr }
         |false=>none
        |none=>none
       |false=>none
      |none=>match(sub==0)&&(n==t.size)with
       |true=>match FE H t (ρ x)with
        |some (y,fr)=>match Ap (Al fr fz) id with
         |true=>k .junk { objs:=[(id,.arr T' t (Az xs i y))],frz:=fr }
         |false=>none
        |none=>none
       |false=>match DT (BH t (AY xs i t.zero)) vs sub with
        |none=>none
        |some cs=>match As H t cs with
         |some (y,fr,[])=>match Ap (Al fr fz) id with
          |true=>k .junk { objs:=[(id,.arr T' t (Az xs i y))],frz:=fr }
          |false=>none
         |_=>none
     |_=>none
    |_=>none
  |_,_=>none
 |.nilCheck x=>match ρ x with
  |.ptr id off=>match IW H id with
   |true=>k (.ptr id off) {}
   |false=>none
  |.eptr id i s=>match Cl H id with
   |true=>k (.eptr id i s) {}
   |false=>none
  |.dptr cs=>k (.dptr cs) {}
  |.clo f cs=>k (.clo f cs) {}
  |.bnd f cs=>k (.bnd f cs) {}
  |_=>none
 |.binOp op T x y _=>match Tc P T with
  |some n=>match cells? (ρ x),cells? (ρ y),YN (ρ x)&&YN (ρ y)with
   |some cs,some ds,true=>match BE n cs ds,op with
    |some b,.eql=>k (.data .bool b) {}
    |some b,.neq=>k (.data .bool (!b)) {}
    |_,_=>none
   |_,_,_=>none
  |none=>match ρ x,ρ y with
   |.data (.int j) a,.data (.int j') b=>match op with
    |.shl=>match shl? j a b with
     |some n=>k (.data (.int j) n) {}
     |none=>none
    |.shr=>match shr? j a b with
     |some n=>k (.data (.int j) n) {}
     |none=>none
    |.quo=>match decide (j=j')with
     |true=>match quo? j a b with
      |some n=>k (.data (.int j) n) {}
      |none=>none
     |false=>none
    |.rem=>match decide (j=j')with
     |true=>match rem? a b with
      |some n=>k (.data (.int j) n) {}
      |none=>none
     |false=>none
    |op=>match decide (j=j'),AZv op j a b with
     |true,some v=>k v {}
     |_,_=>none
   |.data .bool a,.data .bool b=>match op,P.underlying T with
    |.eql,some .bool=>k (.data .bool (a==b)) {}
    |.neq,some .bool=>k (.data .bool (!(a==b))) {}
    |_,_=>none
   |.str a,.str b=>match op with
    |.eql=>k (.data .bool (seq? a b)) {}
    |.neq=>k (.data .bool (!(seq? a b))) {}
    |_=>none
   |_,_=>none
 |.unOp op _ x=>match op,ρ x with
  |.not,.data .bool b=>k (.data .bool (!b)) {}
  |.neg,.data (.int j) n=>k (.data (.int j) (j.wrap (0-n))) {}
  |_,_=>none
 |.convert src dst x=>match ρ x,(P.underlying src).isSome,AMo P dst with
  |.data (.int _) n,true,some j=>k (.data (.int j) (j.wrap n)) {}
  |x,_,_=>match Zm P src,AaS P dst with
   |true,true=>match FE H (.slice (.int .u8)) x with
    |some (xs,_)=>k (.str (AEm xs)) {}
    |none=>none
   |_,_=>none
 |.makeFunc (.func f) first cs=>match first.toList with
  |[]=>k (.clo f (cs.toList.map ρ)) {}
  |x::xs=>match cs.toList with
   |[]=>k (.bnd f ((x::xs).map ρ)) {}
   |_::_=>none
 |.makeMap T none=>match P.underlying T with
  |some (.map a b)=>match X1 P a,AU4 P b with
   |some a,some b=>(match Au H fz slot with|true=>k (.mp slot) { objs:=[(slot,.map a b [])] }|false=>none)
   |_,_=>none
  |_=>none
 |.makeSlice T l c=>match sliceAt P T with
  |some (e,t)=>match zeroAt P e,ρ l,ρ c with
   |some _,.data (.int _) l,.data (.int _) c=>match CM l&&CM c&&ile l c&&decide (((P.info? e).map (·.bytes)).getD 65537≤65536)with
    |true=>(match Au H fz slot with|true=>k (.own slot) { objs:=[(slot,.arr e (t.made E.keep) (D3 (AN l) (t.made E.keep).zero))] }|false=>none)
    |false=>none
   |_,_,_=>none
  |none=>none
 |.slice T x lo hi mx=>match P.underlying T with
  |some (.slice e)=>match mx with
   |none=>match Hj ρ lo,Hj ρ hi with
    |some lo,some hi=>GL H (BI P e) (ρ x) lo hi R fun v=>k v {}
    |_,_=>none
   |some m=>match hi with
    |some (.tmp h)=>match Hj ρ lo,AIx (ρ (.tmp h)),AIx (ρ m)with
     |some lo,some n,some n'=>match ρ x with
      |.data (.slice t) xs=>match decide (BI P e=some t.size)with
       |true=>match ieq n n' with
        |true=>match EF xs (lo.getD 0) n with
         |none=>none
         |some ys=>k (.clip t ys) {}
        |false=>none
       |false=>none
      |_=>none
     |_,_,_=>none
    |hi=>match Hj ρ lo,Hj ρ hi,AIx (ρ m),sliceAt P T with
     |some none,some (some 0),some 0,some (_,t)=>match Fi H (ρ x),BI P e with
      |true,some _=>(match Au H fz slot with|true=>k (.own slot) { objs:=[(slot,.arr e t [])] }|false=>none)
      |_,_=>none
     |_,_,_,_=>none
  |_=>none
 |.fieldAddr T x f=>match fieldAt P T f with
  |none=>none
  |some (off,size,_)=>match decide (size=0)with
   |true=>none
   |false=>match ρ x with
    |.ptr id o=>match IW H id with
     |true=>k (.ptr id (o+off)) {}
     |false=>none
    |.eptr id i s=>match Cl H id with
     |true=>k (.eptr id i (s+off)) {}
     |false=>none
    |.dptr cs=>k (.dptr (cs.drop off)) {}
    |_=>none
 |.field T x f=>match fieldAt P T f with
  |none=>none
  |some (off,size,ag)=>match cells? (ρ x),YN (ρ x)with
   |some vs,true=>match loadCells ag size (vs.drop off)with
    |some v=>k v {}
    |none=>none
   |_,_=>none
 |.indexAddr T x i=>match P.underlying T,ρ i with
  |some (.slice e),.data (.int _) i=>match ρ x with
   |.data (.slice t) xs=>match decide (BI P e=some t.size)with
    |true=>match idx xs i with
     |some d=>k (.dptr (BH t d)) {}
     |none=>none
    |false=>none
   |.own id=>match H[id]? with
    |some (.arr _ t xs)=>match decide (BI P e=some t.size)with
     |true=>match idx xs i with
      |some _=>k (.eptr id (AN i) 0) {}
      |none=>none
     |false=>none
    |some (.prs _ _ is)=>match decide (BI P e=some 1)with
     |true=>match idx is i with
      |some _=>k (.eptr id (AN i) 0) {}
      |none=>none
     |false=>none
    |_=>none
   |.win id off n=>match H[id]? with
    |some (.arr _ t xs)=>match decide (BI P e=some t.size)with
     |true=>match idx (F7 off n xs) i with
      |some _=>k (.eptr id (off+AN i) 0) {}
      |none=>none
     |false=>none
    |_=>none
   |_=>none
  |some (.array n e),.data (.int _) i=>match BI P e,decide (0≤i∧i<(n:Int))with
   |some s,true=>match ρ x with
    |.ptr id o=>match IW H id with
     |true=>k (.ptr id (o+i.toNat*s)) {}
     |false=>none
    |.eptr id j o=>match Cl H id with
     |true=>k (.eptr id j (o+i.toNat*s)) {}
     |false=>none
    |.dptr cs=>k (.dptr (cs.drop (i.toNat*s))) {}
    |_=>none
   |_,_=>none
  |_,_=>none
 |.index T x i=>match AEu x with
  |some s=>match P.underlying T,ρ i with
   |some .string,.data (.int _) i=>match idx (bytesOf s) i with
    |some b=>k (.data (.int .u8) b) {}
    |none=>none
   |_,_=>none
  |none=>match elemAt P T,P.underlying T,ρ i with
   |some (size,ag),some (.array n _),.data (.int _) i=>match decide (0≤i∧i<(n:Int))with
    |true=>match cells? (ρ x),YN (ρ x)with
     |some vs,true=>match loadCells ag size (vs.drop (i.toNat*size))with
      |some v=>k v {}
      |none=>none
     |_,_=>none
    |false=>none
   |_,_,_=>none
 |.lookup T m x ok=>match P.underlying T,ρ m with
  |some (.map kt vt),.mp id=>match H[id]? with
   |some (.map a b es)=>match decide (X1 P kt=some a),zeroAt P vt with
    |true,some (b',_)=>match decide (b'=b),FE H a (ρ x)with
     |true,some (key,_)=>match ok with
      |true=>k (.tup [.data b ((AS (α:=a.den) es key).getD b.zero),.data .bool (AS (α:=a.den) es key).isSome]) {}
      |false=>k (.data b ((AS (α:=a.den) es key).getD b.zero)) {}
     |_,_=>none
    |_,_=>none
   |_=>none
  |_,_=>none
 |.mapUpdate T m x v=>match P.underlying T,ρ m with
  |some (.map kt _),.mp id=>match H[id]? with
   |some (.map a b es)=>match decide (X1 P kt=some a),FE H a (ρ x),FE H b (ρ v)with
    |true,some (key,_),some (val,fr)=>k .junk { objs:=[(id,.map a b (Ae (α:=a.den) es key val))],frz:=fr }
    |_,_,_=>none
   |_=>none
  |_,_=>none
 |.insert T m x v=>match P.underlying T,ρ m with
  |some (.map kt _),.mp id=>match H[id]? with
   |some (.map a b es)=>match decide (X1 P kt=some a),FE H a (ρ x),FE H b (ρ v)with
    |true,some (key,_),some (val,fr)=>k .junk { objs:=[(id,.map a b (Ae (α:=a.den) es key val))],frz:=fr }
    |_,_,_=>none
   |_=>none
  |_,_=>none
 |.mapEntry T m x=>match P.underlying T,ρ m with
  |some (.map kt vt),.mp id=>match H[id]? with
   |some (.map a b es)=>match decide (X1 P kt=some a),zeroAt P vt,FE H a (ρ x)with
    |true,some (b',_),some (key,_)=>match decide (b'=b)with
     |true=>k (.tup [.data b ((AS (α:=a.den) es key).getD b.zero),.data (.int .i64) (Yp (α:=a.den) es key)]) { objs:=[(id,.map a b (Ae (α:=a.den) es key ((AS (α:=a.den) es key).getD b.zero)))] }
     |false=>none
    |_,_,_=>none
   |_=>none
  |_,_=>none
 |.entryStore _ m s v=>match ρ m,ρ s with
  |.mp id,.data (.int .i64) i=>match H[id]? with
   |some (.map a b es)=>match FE H b (ρ v)with
    |some (val,fr)=>match(ile (0:Int) i&&ilt i (AM es))with
     |true=>k .junk { objs:=[(id,.map a b (Adx es i val))],frz:=fr }
     |false=>none
    |none=>none
   |_=>none
  |_,_=>none
 |.extract x i=>match ρ x with
  |.tup vs=>match vs[i]? with
   |some v=>k v {}
   |none=>none
  |_=>none
 |.call { callee:=.builtin .len,args,argTypes }=>match args.toList,argTypes.toList with
  |[x],[T]=>match P.underlying T with
   |some (.slice _)=>match ρ x with
    |.data (.slice _) xs=>k (.data (.int .i64) (AM xs)) {}
    |.nils _=>k (.data (.int .i64) (0:Int)) {}
    |.own id=>match H[id]? with
     |some (.arr _ _ xs)=>k (.data (.int .i64) (AM xs)) {}
     |some (.prs _ _ is)=>k (.data (.int .i64) (AM is)) {}
     |_=>none
    |.win id _ n=>match Cl H id with
     |true=>k (.data (.int .i64) (n:Int)) {}
     |false=>none
    |_=>none
   |some (.map _ _)=>match ρ x with
    |.mp id=>match H[id]? with
     |some (.map _ _ es)=>k (.data (.int .i64) (AM es)) {}
     |_=>none
    |_=>none
   |_=>none
  |_,_=>none
 |.call { callee:=.builtin .append,args,argTypes }=>match args.toList,argTypes.toList with
  |[s,x],[T,T']=>match sliceAt P T,decide (T=T')with
   |some (e,t),true=>match FE H (.slice t) (ρ x),zeroAt P e,(P.info? e).map (fun i=>decide (i.bytes≤1024))with
    |some (ys,_),some _,some true=>match ρ s with
     |.nils _=>match fits (AM ys)with
      |true=>(match Au H fz slot with|true=>k (.own slot) { objs:=[(slot,.arr e t ys)] }|false=>none)
      |false=>none
     |.clip _ xs=>match(YK xs:Option (List t.den)),ys.isEmpty with
      |some xs,false=>match fits (AM xs+AM ys)with
       |true=>(match Au H fz slot with|true=>k (.own slot) { objs:=[(slot,.arr e t (BX xs ys))] }|false=>none)
       |false=>none
      |_,_=>none
     |.own id=>match H[id]? with
      |some (.arr e' _ xs)=>match Ap fz id&&decide (e=e')with
       |true=>match(YK xs:Option (List t.den))with
        |some xs=>match fits (AM xs+AM ys)with
         |true=>match E.keep with
          |true=>k (.data (.slice t) (BX xs ys)) { frz:=[id] }
          |false=>(match Au H fz slot with|true=>k (.own slot) { objs:=[(id,.dead),(slot,.arr e t (BX xs ys))] }|false=>none)
         |false=>none
        |none=>none
       |false=>none
      |_=>none
     |.win id 0 n=>match H[id]? with
      |some (.arr e' _ xs)=>match Ap fz id&&decide (e=e')with
       |true=>match(YK xs:Option (List t.den))with
        |some xs=>match fits ((n:Int)+AM ys)with
         |true=>(match Au H fz slot with|true=>k (.own slot) { objs:=[(id,.dead),(slot,.arr e t (BX (Bu n xs) ys))] }|false=>none)
         |false=>none
        |none=>none
       |false=>none
      |_=>none
     |_=>none
    |_,_,_=>none
   |some (e,t),false=>match ρ s,ρ x,zeroAt P e,AMo P T',(P.info? e).map (fun i=>decide (i.bytes≤1024))with
    |.nils _,.data (.int _) n,some _,some _,some true=>match CM n with
     |true=>(match Au H fz slot with|true=>k (.own slot) { objs:=[(slot,.arr e t (D3 (AN n) t.zero))] }|false=>none)
     |false=>none
    |_,_,_,_,_=>none
   |none,true=>match cellAt P T,ρ x with
    |some e,.own ix=>match H[ix]? with
     |some (.prs e1 tgt ys)=>match decide (e1=e)with
      |true=>match ρ s with
       |.nils _=>match fits (AM ys)with
        |true=>(match Au H fz slot with|true=>k (.own slot) { objs:=[(slot,.prs e tgt ys)] }|false=>none)
        |false=>none
       |.own id=>match H[id]? with
        |some (.prs e2 tgt2 xs)=>match decide (e2=e)&&decide (tgt2=tgt)with
         |true=>match fits (AM xs+AM ys)with
          |true=>(match Au H fz slot with|true=>k (.own slot) { objs:=[(id,.dead),(slot,.prs e tgt (BX xs ys))] }|false=>none)
          |false=>none
         |false=>none
        |_=>none
       |_=>none
      |false=>none
     |_=>none
    |_,_=>none
   |_,_=>none
  |_,_=>none
 |.call { callee:=.builtin .cap,args,argTypes }=>match args.toList,argTypes.toList with
  |[x],[T]=>match P.underlying T,ρ x with
   |some (.slice _),.nils _=>k (.data (.int .i64) (0:Int)) {}
   |_,_=>none
  |_,_=>none
 |.call { callee:=.builtin .min,args,.. }=>match args.toList with
  |[x,y]=>match ρ x,ρ y with
   |.data (.int j) a,.data (.int _) b=>k (.data (.int j) (B4 a b)) {}
   |_,_=>none
  |_=>none
 |.call { callee:=.builtin .max,args,.. }=>match args.toList with
  |[x,y]=>match ρ x,ρ y with
   |.data (.int j) a,.data (.int _) b=>k (.data (.int j) (imax a b)) {}
   |_,_=>none
  |_=>none
 |.call { callee:=.builtin .clear,args,argTypes }=>match args.toList,argTypes.toList with
  |[x],[T]=>match sliceAt P T with
   |some (e,t)=>match zeroAt P e with
    |some _=>match ρ x with
     |.nils _=>k .junk {}
     |.own id=>match H[id]? with
      |some (.arr e' t' xs)=>match Ap fz id&&decide (t=t')with
       |true=>k .junk { objs:=[(id,.arr e' t' (Br 0 xs.length t'.zero xs))] }
       |false=>none
      |_=>none
     |.win id off n=>match H[id]? with
      |some (.arr e' t' xs)=>match Ap fz id&&decide (t=t')with
       |true=>k .junk { objs:=[(id,.arr e' t' (Br off n t'.zero xs))] }
       |false=>none
      |_=>none
     |_=>none
    |none=>none
   |none=>none
  |_,_=>none
 |.call { callee:=.value f,args,.. }=>match ρ f with
  |.clo g caps=>E.spec g R (args.toList.map ρ++caps) H fz slot k
  |.bnd g fs=>E.spec g R (fs++args.toList.map ρ) H fz slot k
  |_=>none
 |_=>none
def St.put(s:St)(d:Option Tmp)(v:AV):St:=
 match d with
 |some d=>{ s with tmps:=s.tmps.set d v }
 |none=>s
def Ck(e:Eff)(H:List Ob):List Ob:=A5 e.objs (match e.heap with
 |none=>H
 |some p=>p.1)
def GC(e:Eff)(fz:List Bool):List Bool:=Al e.frz (match e.heap with
 |none=>fz
 |some p=>p.2)
def St.app(s:St)(e:Eff):St:={ s with heap:=Ck e s.heap,frz:=GC e s.frz }
def BJ:AV:=.tup []
def guarded(R:Type)(all:List Oper)(g:Option (Nat×Bool))(st:St)(yes no:St→Option R):Option R:=
 match g with
 |none=>yes st
 |some (j,want)=>match(all[j]?).bind (·.dst)with
  |none=>none
  |some d=>match st.tmps[d]? with
   |some (.data .bool b)=>match b with
    |true=>match want with
     |true=>yes { st with tmps:=st.tmps.set d (.data .bool true) }
     |false=>no { st with tmps:=st.tmps.set d (.data .bool true) }
    |false=>match want with
     |true=>no { st with tmps:=st.tmps.set d (.data .bool false) }
     |false=>yes { st with tmps:=st.tmps.set d (.data .bool false) }
   |some (.tup [])=>no st
   |_=>none
def I9(P:Program)(E:Env)(R:Type)(all:List Oper):List Oper→Nat→St→(St→Option R)→Option R
 |[],_,st,k=>k st
 |o::rest,slot,st,k=>
  guarded R all o.guard st
   (fun st=>evalOp P E R o.op o.type (BL st.tmps) st.heap st.frz slot fun v e=>I9 P E R all rest (slot+slotsOf o.op) ((st.app e).put o.dst v) k)
   (fun st=>I9 P E R all rest (slot+slotsOf o.op) (st.put o.dst BJ) k)
def Ez(ops:List Oper):Nat:=(ops.map fun o=>slotsOf o.op).foldr (· + ·) 0
def St.pad(s:St)(n:Nat):St:={ s with heap:=s.heap++List.replicate n .free,frz:=s.frz++List.replicate n false }
def HM(P:Program)(E:Env)(R:Type)(ops:List Oper)(st:St)(k:St→Option R):Option R:=
 I9 P E R ops ops st.heap.length (st.pad (Ez ops)) k
mutual
def Ay:AV→List Nat
 |.agg cs=>BF cs
 |.own id=>[id]
 |.win id _ _=>[id]
 |.ptr id _=>[id]
 |.eptr id _ _=>[id]
 |.dptr cs=>BF cs
 |.clo _ cs=>BF cs
 |.bnd _ cs=>BF cs
 |.mp id=>[id]
 |.tup vs=>BF vs
 |_=>[]
def BF:List AV→List Nat
 |[]=>[]
 |v::vs=>Ay v++BF vs
end
def Gt(ρ:Operand→AV)(o:Op):List Nat:=o.operands.toList.flatMap fun x=>Ay (ρ x)
def MF(ρ:Operand→AV)(o:Op):List Nat:=
 match o with
 |.move _=>[]
 |.assign _=>[]
 |.pick _ _ _=>[]
 |.extract _ _=>[]
 |.build _ _=>[]
 |.makeFunc _ _ _=>[]
 |.store T a x=>match ρ a with
  |.ptr id _=>[id]
  |_=>Gt ρ (.store T a x)
 |o=>Gt ρ o
def writer:Op→Bool
 |.store ..=>true
 |.mapUpdate ..=>true
 |.insert ..=>true
 |.mapEntry ..=>true
 |.entryStore ..=>true
 |.call { callee:=.builtin .append,.. }=>true
 |.call { callee:=.builtin .clear,.. }=>true
 |_=>false
def GS(E:Env)(ρ:Operand→AV):Op→Bool
 |.call { callee:=.value f,.. }=>match ρ f with
  |.clo g _=>E.loc g
  |.bnd g _=>E.loc g
  |_=>false
 |_=>true
def rd(φ:List Nat)(i:Nat):Bool:=φ.contains (2*i)||φ.contains (2*i+1)
def wt(φ:List Nat)(i:Nat):Bool:=φ.contains (2*i+1)
def Et(ρ:Operand→AV)(o:Op):List Nat:=
 match o with
 |.store _ a _=>Ay (ρ a)
 |.mapUpdate _ m _ _=>Ay (ρ m)
 |.insert _ m _ _=>Ay (ρ m)
 |.mapEntry _ m _=>Ay (ρ m)
 |.entryStore _ m _ _=>Ay (ρ m)
 |.call { callee:=.builtin .append,args,.. }=>match args.toList with
  |s::_=>Ay (ρ s)
  |[]=>[]
 |.call { callee:=.builtin .clear,args,.. }=>match args.toList with
  |s::_=>Ay (ρ s)
  |[]=>[]
 |_=>[]
def within(l φ:List Nat):Bool:=l.all (rd φ)
def Qf(l φ:List Nat):Bool:=l.all (wt φ)
def AJJ(wr:Bool)(φ:List Nat)(slot n:Nat)(e:Eff):Bool:=
 e.heap.isNone&&(e.objs.all fun p=>(decide (slot≤p.1)&&decide (p.1<slot+n))||(wr&&wt φ p.1))&&within e.frz φ
def Bi:Op→Bool
 |.move _=>true
 |.assign _=>true
 |.pick _ _ _=>true
 |.binOp _ _ _ _ _=>true
 |.unOp _ _ _=>true
 |.extract _ _=>true
 |_=>false
def PL(φ:List Nat):Bool:=φ.contains 1000003
def F5:Op→Bool
 |.load _ _=>true
 |.convert _ _ _=>true
 |.fieldAddr _ _ _=>true
 |.field _ _ _=>true
 |.indexAddr _ _ _=>true
 |.index _ _ _=>true
 |.nilCheck _=>true
 |.lookup _ _ _ _=>true
 |.slice _ _ _ _ none=>true
 |.build _ _=>true
 |.makeFunc (.func _) _ _=>true
 |.call { callee:=.builtin .len,.. }=>true
 |o=>Bi o
def Yk(φ:List Nat):Bool:=φ.contains 1000005
def VE(E:Env)(ρ:Operand→AV):Op→Bool
 |.call { callee:=.value f,.. }=>match ρ f with
  |.clo g _=>E.loc2 g
  |.bnd g _=>E.loc2 g
  |_=>false
 |_=>false
def OD(φ:List Nat)(H:List Ob):Bool:=φ.all fun c=>match H[c/2]? with
 |some (.box cs)=>(BF cs).all (wt φ)
 |_=>true
def MC(E:Env)(ρ:Operand→AV)(o:Op)(φ:List Nat)(H:List Ob):Bool:=
 (Gt ρ o).all (wt φ)&&OD φ H&&(φ.all fun c=>c % 2==1)&&VE E ρ o
def XP(P:Program)(E:Env)(R:Type)(all:List Oper)(o:Oper)(φ:List Nat)(slot:Nat)(st:St)(k:St→Option R):Option R:=
 guarded R all o.guard st
  (fun st=>match PL φ||((Yk φ&&MC E (BL st.tmps) o.op φ st.heap)||(!(Yk φ)&&(within (MF (BL st.tmps) o.op) φ&&Qf (Et (BL st.tmps) o.op) φ&&GS E (BL st.tmps) o.op)))with
   |true=>evalOp P E R o.op o.type (BL st.tmps) st.heap st.frz slot fun v e=>match PL φ||AJJ (writer o.op||Yk φ) φ slot (slotsOf o.op) e with
    |true=>k ((st.app e).put o.dst v)
    |false=>none
   |false=>none)
  (fun st=>k (st.put o.dst BJ))
def IU(P:Program)(E:Env)(R:Type)(all:List Oper):List Oper→List (List Nat)→Nat→St→(St→Option R)→Option R
 |[],_,_,st,k=>k st
 |o::rest,fp,slot,st,k=>XP P E R all o (fp.headD []) slot st fun st=>IU P E R all rest fp.tail (slot+slotsOf o.op) st k
def apart?(ops:List Oper)(x y:Oper):Bool:=Oper.apart ops.toArray x y
def ZY:Op→Op→Bool
 |.lookup _ _ _ ok,.mapEntry _ _ _ => !ok
 |_,_=>false
def indep(all:List Oper)(x y:Oper)(φx φy:List Nat)(sx sy:Nat):Bool:=
 apart? all x y&&((PL φx&&Bi y.op)||(PL φy&&Bi x.op)||(!(PL φx) && !(PL φy)&&(φy.all fun c => !(decide (sx≤c/2)&&decide (c/2<sx+slotsOf x.op)))&&(φx.all fun c => !(decide (sy≤c/2)&&decide (c/2<sy+slotsOf y.op))) &&
  (φx.all fun c=>decide (c % 2=0) || !(rd φy (c/2)))&&(φy.all fun c=>decide (c % 2=0) || !(rd φx (c/2))))||(!(Yk φx)&&(!(Yk φy)&&ZY x.op y.op)))
def AM7(y:Oper)(i:Nat):Bool:=y.after.toList.any fun e=>Region.binds .any e&&decide (e.on=i)
def reach(all:List Oper):Nat→Oper→Nat→Bool
 |0,_,_=>false
 |n+1,y,i=>AM7 y i||y.after.toList.any fun e=>Region.binds .any e&&match all[e.on]? with
  |some z=>reach all n z i
  |none=>false
def ZX(all:List Oper)(y:Oper)(φy:List Nat)(sy:Nat):List (Nat×Oper×List Nat×Nat)→Bool
 |[]=>true
 |(i,x,φx,sx)::r=>(AM7 y i||(indep all x y φx φy sx sy||reach all 8 y i))&&ZX all y φy sy r
def AMN(all:List Oper):List Oper→List (List Nat)→Nat→Nat→List (Nat×Oper×List Nat×Nat)→Bool
 |[],_,_,_,_=>true
 |o::rest,fp,i,slot,acc=>ZX all o (fp.headD []) slot acc&&(o.after.toList.all fun e => !Region.binds .any e||decide (e.on<i)) &&
  AMN all rest fp.tail (i+1) (slot+slotsOf o.op) ((i,o,fp.headD [],slot)::acc)
def EN(P:Program)(E:Env)(R:Type)(fp:List (List Nat))(ops:List Oper)(st:St)(k:St→Option R):Option R:=
 match P.follows .mixedOrders&&AMN ops ops fp 0 st.heap.length []with
 |true=>IU P E R ops ops fp st.heap.length (st.pad (Ez ops)) k
 |false=>none
def loops:Code→Nat
 |.seq a b=>loops a+loops b
 |.cond _ a b=>loops a+loops b
 |.block _ c=>loops c
 |.scope c=>loops c
 |.loop c=>loops c+1
 |_=>0
def PO(tmps:List AV)(c:Operand)(b:Bool):List AV:=
 match c with
 |.tmp t=>tmps.set t (.data .bool b)
 |_=>tmps
def BB(P:Program)(E:Env)(h:Hints)(R:Type):Code→Nat→St→(Exit→St→Option R)→Option R
 |.skip,_,st,k=>k .normal st
 |.region id ops draw,_,st,k=>match draw with
  |false=>HM P E R ops.toList st (k .normal)
  |true=>EN P E R (h.fp id) ops.toList st (k .normal)
 |.seq a b,n,st,k=>BB P E h R a n st fun e st=>match e with
  |.normal=>BB P E h R b (n+loops a) st k
  |e=>k e st
 |.cond c a b,n,st,k=>match BL st.tmps c with
  |.data .bool x=>match x with
   |true=>BB P E h R a n { st with tmps:=PO st.tmps c true } k
   |false=>BB P E h R b (n+loops a) { st with tmps:=PO st.tmps c false } k
  |_=>none
 |.block id c,n,st,k=>BB P E h R c n st fun e st=>match e with
  |.exit id'=>match decide (id'=id)with
   |true=>k .normal st
   |false=>k (.exit id') st
  |e=>k e st
 |.loop _,n,st,k=>h.loop n R st k
 |.exit id,_,st,k=>k (.exit id) st
 |.ret,_,st,k=>k .ret st
 |_,_,_,_=>none
def Q7(P:Program)(st:St):ResultVar→Option AV
 |.tmp t=>some (st.tmps.getD t .junk)
 |.cell t T=>match BL st.tmps (.tmp t),BI P T,D5 P T with
  |.ptr id off,some n,some ag=>match st.heap[id]? with
   |some (.box cs)=>loadCells ag n (cs.drop off)
   |_=>none
  |_,_,_=>none
def C9(P:Program)(st:St):List ResultVar→Option (List AV)
 |[]=>some []
 |r::rs=>match Q7 P st r with
  |none=>none
  |some v=>match C9 P st rs with
   |none=>none
   |some vs=>some (v::vs)
end
end Go.Pev
end
section
namespace Go.Pev
noncomputable section
inductive Loc where
 |tmp (t:Nat)
 |cell (j c:Nat)
 |cap (t i:Nat)
 |obj (j:Nat)
inductive Con where
 |dat (t:Ty)
 |own (T:TypeId) (e:Ty)
 |box (n:Nat)
 |map (k v:Ty)
 |own' (j:Nat)
 |ptr' (j off:Nat)
 |map' (j:Nat)
 |win' (j:Nat)
 |sub' (j:Nat)
 |clo (f:FuncId) (ps:List (Nat×Nat))
 |bnd (f:FuncId) (j:Nat)
 |prs (T:TypeId) (j:Nat)
 |nil (e:Ty)
abbrev Con.di:Con:=.dat (.int .i64)
abbrev AE:=List (Loc×Con)
def leaves:AE→List Ty
 |[]=>[]
 |(_,.dat t)::r=>t::leaves r
 |(_,.own _ e)::r=>.slice e::leaves r
 |(_,.map k v)::r=>.slice (.prod k v)::leaves r
 |(_,.win' _)::r=>.int .i64::leaves r
 |(_,.prs _ _)::r=>.slice (.int .i64)::leaves r
 |(_,.sub' _)::r=>.int .i64 :: .int .i64::leaves r
 |(_,_)::r=>leaves r
inductive Bnd where
 |none
 |whole (id:Nat)
 |cut (id:Nat)
 deriving DecidableEq
def Bnd.id? : Bnd→Option Nat
 |.none=>Option.none
 |.whole id=>some id
 |.cut id=>some id
def Ano(H:List Ob)(j:Nat):Option AV:=
 match H[j]? with
 |some (.arr _ _ _)=>some (.own j)
 |some (.box _)=>some (.ptr j 0)
 |some (.map _ _ _)=>some (.mp j)
 |some (.prs _ _ _)=>some (.own j)
 |_=>none
def look(tm:List AV)(H:List Ob)(bs:List Bnd):Loc→Option AV
 |.tmp t=>tm[t]?
 |.cell j c=>match bs[j]? with
  |some (.whole id)=>match H[id]? with
   |some (.box cs)=>cs[c]?
   |_=>none
  |_=>none
 |.cap t i=>match tm[t]? with
  |some (.clo _ cs)=>cs[i]?
  |some (.bnd _ cs)=>cs[i]?
  |_=>none
 |.obj j=>Ano H j
def Afr(bs:List Bnd):List AV→List (Nat×Nat)→Bool
 |[],[]=>true
 |.ptr id o::vs,(j,o')::ps=>(match bs[j]? with
  |some (.whole id')=>decide (id=id')&&decide (o=o')
  |_=>false)&&Afr bs vs ps
 |_,_=>false
def fresh?(bs:List Bnd)(id:Nat):Bool:=bs.all fun b=>match b with
 |.none=>true
 |.whole i => !(decide (i=id))
 |.cut i => !(decide (i=id))
abbrev ApK(α:Type):=Option (α×List Bnd×List Nat)
def dec(tm:List AV)(H:List Ob):(its:AE)→List Bool→List Bnd→ApK (Ci (leaves its))
 |[],_,bs=>some ((),bs,[])
 |(l,.dat t)::r,fz,bs=>match look tm H bs l with
  |some v=>match FE H t v with
   |some (x,f)=>match f.all (fresh? bs)with
    |true=>match dec tm H r (Al f fz) bs with
     |some (xs,bs',g)=>some ((x,xs),bs',f++g)
     |none=>none
    |false=>none
   |none=>none
  |none=>none
 |(l,.own T e)::r,fz,bs=>match look tm H bs l with
  |some (.nils _)=>match decide (0<e.size)with
   |true=>match dec tm H r fz (bs++[.none])with
    |some (xs,bs',g)=>some (([],xs),bs',g)
    |none=>none
   |false=>none
  |some (.own id)=>match H[id]?,Ap fz id&&fresh? bs id with
   |some (.arr T' e' ys),true=>match decide (T=T'),(YK ys:Option (List e.den))with
    |true,some ys=>match dec tm H r fz (bs++[.whole id])with
     |some (xs,bs',g)=>some ((ys,xs),bs',g)
     |none=>none
    |_,_=>none
   |_,_=>none
  |some (.win id 0 n)=>match H[id]?,Ap fz id&&fresh? bs id with
   |some (.arr T' e' ys),true=>match decide (T=T'),(YK ys:Option (List e.den))with
    |true,some ys=>match dec tm H r fz (bs++[.cut id])with
     |some (xs,bs',g)=>some ((Bu n ys,xs),bs',g)
     |none=>none
    |_,_=>none
   |_,_=>none
  |_=>none
 |(l,.box n)::r,fz,bs=>match look tm H bs l with
  |some (.ptr id 0)=>match H[id]?,fresh? bs id with
   |some (.box cs),true=>match decide (cs.length=n)with
    |true=>dec tm H r fz (bs++[.whole id])
    |false=>none
   |_,_=>none
  |_=>none
 |(l,.map k v)::r,fz,bs=>match look tm H bs l with
  |some (.mp id)=>match H[id]?,fresh? bs id with
   |some (.map k' v' es),true=>match(YK (t:=.prod k' v') es:Option (List (Ty.prod k v).den))with
    |some es=>match dec tm H r fz (bs++[.whole id])with
     |some (xs,bs',g)=>some ((es,xs),bs',g)
     |none=>none
    |_=>none
   |_,_=>none
  |_=>none
 |(l,.own' j)::r,fz,bs=>match look tm H bs l,bs[j]? with
  |some (.own id),some (.whole id')=>match decide (id=id')with
   |true=>dec tm H r fz bs
   |false=>none
  |_,_=>none
 |(l,.ptr' j off)::r,fz,bs=>match look tm H bs l,bs[j]? with
  |some (.ptr id o),some (.whole id')=>match decide (id=id')&&decide (o=off)with
   |true=>dec tm H r fz bs
   |false=>none
  |_,_=>none
 |(l,.map' j)::r,fz,bs=>match look tm H bs l,bs[j]? with
  |some (.mp id),some (.whole id')=>match decide (id=id')with
   |true=>dec tm H r fz bs
   |false=>none
  |_,_=>none
 |(l,.win' j)::r,fz,bs=>match look tm H bs l,bs[j]? with
  |some (.win id 0 n),some (.whole id')=>match decide (id=id')with
   |true=>match dec tm H r fz bs with
    |some (xs,bs',g)=>some (((n:Int),xs),bs',g)
    |none=>none
   |false=>none
  |some (.own id),some (.whole id')=>match decide (id=id'),H[id]? with
   |true,some (.arr _ _ ys)=>match dec tm H r fz bs with
    |some (xs,bs',g)=>some ((AM ys,xs),bs',g)
    |none=>none
   |_,_=>none
  |_,_=>none
 |(l,.sub' j)::r,fz,bs=>match look tm H bs l,bs[j]? with
  |some (.win id off n),some (.whole id')=>match decide (id=id')with
   |true=>match dec tm H r fz bs with
    |some (xs,bs',g)=>some (((off:Int),(n:Int),xs),bs',g)
    |none=>none
   |false=>none
  |_,_=>none
 |(l,.clo f ps)::r,fz,bs=>match look tm H bs l with
  |some (.clo f' vs)=>match decide (f=f')&&Afr bs vs ps with
   |true=>dec tm H r fz bs
   |false=>none
  |_=>none
 |(l,.bnd f j)::r,fz,bs=>match look tm H bs l,bs[j]? with
  |some (.bnd f' [.own id]),some (.whole id')=>match decide (f=f')&&decide (id=id')with
   |true=>dec tm H r fz bs
   |false=>none
  |_,_=>none
 |(l,.prs T j)::r,fz,bs=>match look tm H bs l with
  |some (.nils _)=>match dec tm H r fz (bs++[.none])with
   |some (xs,bs',g)=>some ((([]:List Int),xs),bs',g)
   |none=>none
  |some (.own id)=>match H[id]?,fresh? bs id,bs[j]? with
   |some (.prs T' tgt is),true,some (.whole tgt')=>match decide (T=T')&&decide (tgt=tgt')with
    |true=>match dec tm H r fz (bs++[.whole id])with
     |some (xs,bs',g)=>some ((is,xs),bs',g)
     |none=>none
    |false=>none
   |_,_,_=>none
  |_=>none
 |(l,.nil _)::r,fz,bs=>match look tm H bs l with
  |some (.nils _)=>dec tm H r fz bs
  |_=>none
def place(st:St)(v:AV):Loc→St
 |.tmp t=>{ st with tmps:=st.tmps.set t v }
 |.cell j c=>match st.heap[j]? with
  |some (.box cs)=>{ st with heap:=st.heap.set j (.box (cs.set c v)) }
  |_=>st
 |_=>st
def J9(st:St)(o:Ob):St:={ st with heap:=st.heap++[o],frz:=st.frz++[false] }
def enc:(its:AE)→Ci (leaves its)→St→St
 |[],_,st=>st
 |(l,.dat t)::r,d,st=>enc r d.2 (place st (.data t d.1) l)
 |(l,.own T e)::r,d,st=>enc r d.2 (place (J9 st (.arr T e d.1)) (.own st.heap.length) l)
 |(l,.box n)::r,d,st=>enc r d (place (J9 st (.box (List.replicate n .junk))) (.ptr st.heap.length 0) l)
 |(l,.map k v)::r,d,st=>enc r d.2 (place (J9 st (.map k v d.1)) (.mp st.heap.length) l)
 |(l,.own' j)::r,d,st=>enc r d (place st (.own j) l)
 |(l,.ptr' j off)::r,d,st=>enc r d (place st (.ptr j off) l)
 |(l,.map' j)::r,d,st=>enc r d (place st (.mp j) l)
 |(l,.win' j)::r,d,st=>enc r d.2 (place st (.win j 0 (AN d.1)) l)
 |(l,.sub' j)::r,d,st=>enc r d.2.2 (place st (.win j (AN d.1) (AN d.2.1)) l)
 |(l,.clo f ps)::r,d,st=>enc r d (place st (.clo f (ps.map fun p=>.ptr p.1 p.2)) l)
 |(l,.bnd f j)::r,d,st=>enc r d (place st (.bnd f [.own j]) l)
 |(l,.prs T j)::r,d,st=>enc r d.2 (place (J9 st (.prs T j d.1)) (.own st.heap.length) l)
 |(l,.nil e)::r,d,st=>enc r d (place st (.nils e) l)
def blank(n:Nat):St:={ tmps:=List.replicate n .junk,heap:=[],frz:=[] }
def encode(n:Nat)(its:AE)(d:Ci (leaves its)):St:=enc its d (blank n)
def pins:Nat→Nat→List Bnd→Bool
 |0,_,_=>true
 |n+1,i,b::bs=>decide (b = .whole i)&&pins n (i+1) bs
 |_+1,_,[]=>false
def decode(np nt:Nat)(st:St)(its:AE):Option (Ci (leaves its)):=
 match decide (st.tmps.length=nt)with
 |true=>match dec st.tmps st.heap its st.frz []with
  |some (v,bs,_)=>match pins np 0 bs with
   |true=>some v
   |false=>none
  |none=>none
 |false=>none
abbrev Ao:=List (Exit×AE)
@[reducible] def AHi:Ao→Type
 |[]=>Unit
 |o::r=>Ci (leaves o.2)⊕AHi r
def AA2:Exit→Exit→Bool
 |.normal,.normal=>true
 |.ret,.ret=>true
 |.exit a,.exit b=>decide (a=b)
 |_,_=>false
def AIe(np nt:Nat)(e:Exit)(st:St):(os:Ao)→Option (AHi os)
 |[]=>none
 |o::r=>match AA2 e o.1 with
  |true=>match decode np nt st o.2 with
   |some d=>some (.inl d)
   |none=>none
  |false=>match AIe np nt e st r with
   |some x=>some (.inr x)
   |none=>none
def AI4(n:Nat){R:Type}(k:Exit→St→Option R):(os:Ao)→AHi os→Option R
 |[],_=>none
 |o::r,x=>match x with
  |.inl d=>k o.1 (encode n o.2 d)
  |.inr x=>AI4 n k r x
def Aj{σ ρ:Type}(step:σ→Option (σ⊕ρ)):Nat→σ→Option ρ
 |0,_=>none
 |n+1,v=>match step v with
  |none=>none
  |some (.inl v')=>Aj step n v'
  |some (.inr r)=>some r
def many:Nat:=18446744073709551616
def AX[Lk]{σ ρ:Type}(step:σ→Option (σ⊕ρ))(n:Nat)(v:σ):Option ρ:=Lk.f (Aj step n v)
theorem A3{σ ρ:Type}(step:σ→Option (σ⊕ρ))(n:Nat)(v:σ):AX step n v=Aj step n v:=AJ _
def AQg(np nt:Nat)(its:AE)(os:Ao)(e:Exit)(st:St):Option (Ci (leaves its)⊕AHi os):=
 match e with
 |.normal=>match decode np nt st its with
  |some d=>some (.inl d)
  |none=>none
 |e=>match AIe np nt e st os with
  |some x=>some (.inr x)
  |none=>none
def Ab(np nt:Nat)(its:AE)(os:Ao)(step:Ci (leaves its)→Option (Ci (leaves its)⊕AHi os)):AUo:=fun R st k=>
 match decode np nt st its with
 |none=>none
 |some v=>match AX step many v with
  |none=>none
  |some r=>AI4 nt k os r
def roundOf(P:Program)(E:Env)(h:Hints)(n np nt:Nat)(body:Code)(its:AE)(os:Ao)(v:Ci (leaves its)):Option (Ci (leaves its)⊕AHi os):=
 BB P E h _ body n (encode nt its v) (AQg np nt its os)
inductive RS where
 |one
 |agg (n:Nat)
def GU:List RS→List AV→Option (List AV)
 |[],[]=>some []
 |.one::r,v::vs=>match GU r vs with
  |some l=>some (v::l)
  |none=>none
 |.agg n::r,v::vs=>match YN v,cells? v with
  |true,some cs=>match decide (cs.length=n)with
   |true=>match GU r vs with
    |some l=>some (cs++l)
    |none=>none
   |false=>none
  |_,_=>none
 |_,_=>none
def GO:List RS→List AV→List AV
 |[],_=>[]
 |.one::r,vs=>vs.headD .junk::GO r vs.tail
 |.agg n::r,vs=>.agg (vs.take n)::GO r (vs.drop n)
def RS.cells:RS→Nat
 |.one=>1
 |.agg n=>n
def cellsOf:List RS→Nat
 |[]=>0
 |r::rs=>r.cells+cellsOf rs
def Ep:AE→Nat
 |[]=>0
 |(_,.own _ _)::r=>Ep r+1
 |(_,.box _)::r=>Ep r+1
 |(_,.map _ _)::r=>Ep r+1
 |(_,.prs _ _)::r=>Ep r+1
 |_::r=>Ep r
def finish(np:Nat)(P:Program)(fn:Func)(outs:AE)(rs:List RS)(st:St):Option (Ci (leaves outs)):=
 match C9 P st fn.results.toList with
 |some vs=>match GU rs vs with
  |some tm=>match dec tm st.heap outs st.frz []with
   |some (y,bs,_)=>match pins np 0 bs with
    |true=>some y
    |false=>none
   |none=>none
  |none=>none
 |none=>none
def AK(np:Nat)(P:Program)(E:Env)(h:Hints)(fn:Func)(its outs:AE)(rs:List RS)(x:Ci (leaves its)):Option (Ci (leaves outs)):=
 match fn.body with
 |none=>none
 |some c=>BB P E h _ c 0 (encode fn.ntmps its x) fun e st=>
  match e with
  |.normal=>finish np P fn outs rs st
  |.ret=>finish np P fn outs rs st
  |_=>none
def given:List Bnd→List Nat
 |[]=>[]
 |.whole id::bs=>id::given bs
 |_::bs=>given bs
def Cr:Nat→List Bnd→Nat→List Nat
 |0,_,_=>[]
 |n+1,.whole id::bs,slot=>id::Cr n bs slot
 |n+1,_::bs,slot=>slot::Cr n bs (slot+1)
 |n+1,[],slot=>slot::Cr n [] (slot+1)
mutual
def FM(ids:List Nat):AV→AV
 |.agg cs=>.agg (KU ids cs)
 |.own id=>.own (ids.getD id 0)
 |.win id off n=>.win (ids.getD id 0) off n
 |.ptr id off=>.ptr (ids.getD id 0) off
 |.eptr id i s=>.eptr (ids.getD id 0) i s
 |.dptr cs=>.dptr (KU ids cs)
 |.clo f cs=>.clo f (KU ids cs)
 |.bnd f cs=>.bnd f (KU ids cs)
 |.mp id=>.mp (ids.getD id 0)
 |.tup vs=>.tup (KU ids vs)
 |v=>v
def KU(ids:List Nat):List AV→List AV
 |[]=>[]
 |v::vs=>FM ids v::KU ids vs
end
def D0(ids:List Nat):Ob→Ob
 |.box cs=>.box (KU ids cs)
 |.prs T tgt is=>.prs T (ids.getD tgt 0) is
 |o=>o
mutual
def JB:AV→Bool
 |.data t _=>t.flat
 |.agg cs=>Jy cs
 |.dptr _=>false
 |.clip _ _=>false
 |.clo _ cs=>Jy cs
 |.bnd _ cs=>Jy cs
 |.tup vs=>Jy vs
 |_=>true
def Jy:List AV→Bool
 |[]=>true
 |v::vs=>JB v&&Jy vs
end
def P6:Ob→Bool
 |.box cs=>Jy cs
 |.arr _ t _=>t.flat
 |.map k v _=>k.flat&&v.flat
 |_=>true
def FN(H:List Ob)(fz:List Bool):List Nat→List Bnd→Bool
 |[],_=>true
 |i::ids,bs=>(match bs with
  |.whole id::_=>decide (i=id)
  |_=>Au H fz i)&&FN H fz ids bs.tail
def JA:List Nat→Bool
 |[]=>true
 |i::ids => !(ids.contains i)&&JA ids
def single:List AV→AV
 |[v]=>v
 |vs=>.tup vs
def Bnd.Anl:Bnd→Bool
 |.cut _=>false
 |_=>true
def NH(R:Type)(gv:List Nat)(bs:List Bnd)(fr:List Nat)(rs:List RS)(E:St)(ids:List Nat)(H:List Ob)(fz:List Bool)(k:AV→Eff→Option R):Option R:=
 match Jy E.tmps&&E.heap.all P6 with
 |true=>match FN H fz ids bs&&JA ids with
  |true=>k (single (GO rs (KU ids E.tmps))) { objs:=gv.map (fun i=>(i,.dead))++ids.zip (E.heap.map (D0 ids)) }
  |false=>none
 |false=>match FN H (Al fr fz) ids bs&&JA ids with
  |true=>k (single (GO rs (KU ids E.tmps))) { objs:=gv.map (fun i=>(i,.dead))++ids.zip (E.heap.map (D0 ids)),frz:=fr }
  |false=>none
def AF(np na:Nat)(its outs:AE)(rs:List RS)(f:Ci (leaves its)→Option (Ci (leaves outs))):Spec:=fun R args H fz slot k=>
 match dec args H its fz []with
 |none=>none
 |some (x,bs,fr)=>match bs.all Bnd.Anl&&decide (bs.length=Ep its)&&decide (args.length=na)with
  |false=>none
  |true=>match f x with
   |none=>none
   |some y=>NH R (given (bs.drop np)) (bs.take np) fr rs (encode (cellsOf rs) outs y) (Cr (Ep outs) (bs.take np) slot) H fz k
def Co(P:Program)(E:Env)(h:Hints)(fn:Func):Spec:=fun R args H fz _ k=>
 match fn.body with
 |none=>none
 |some c=>match decide (args.length≤fn.ntmps)with
  |false=>none
  |true=>BB P E h R c 0 { tmps:=args++List.replicate (fn.ntmps-args.length) .junk,heap:=H,frz:=fz } fun e st=>
   match e with
   |.normal=>match C9 P st fn.results.toList with
    |some vs=>k (single vs) { heap:=some (st.heap,st.frz) }
    |none=>none
   |.ret=>match C9 P st fn.results.toList with
    |some vs=>k (single vs) { heap:=some (st.heap,st.frz) }
    |none=>none
   |_=>none
end
end Go.Pev
end
section
namespace Go.Pev
open Go.RowKit
def rows{α:Type}(R:α→List Value→Prop):List α→List Value→Prop
 |[],cs=>cs=[]
 |x::xs,cs=>∃ c1 c2,cs=c1++c2∧R x c1∧rows R xs c2
def Dat(w:World)(F:Nat→Prop):(t:Ty)→t.den→List Value→Prop
 |.unit,_,cs=>cs=[]
 |.bool,b,cs=>cs=[.bool b]
 |.int k,n,cs=>cs=[.int k n]
 |.slice e,xs,cs=>∃ a cap,cs=[.slice a (List.length (α:=e.den) xs) cap]∧List.length (α:=e.den) xs≤cap∧(xs≠[]→∃ ad row,a=some ad∧F ad.block∧rows (Dat w F e) xs row ∧
   ∀ j u,row[j]? = some u→w.cell? (ad.add j)=some u)
 |.prod a b,d,cs=>∃ c1 c2,cs=c1++c2∧Dat w F a d.1 c1∧Dat w F b d.2 c2
 |.arr n e,xs,cs=>List.length (α:=e.den) xs=n∧rows (Dat w F e) xs cs
 |.nul _,_,cs=>cs=[.slice none 0 0]
def Bj(w:World)(F:Nat→Prop)(t:Ty)(d:t.den)(v:Value):Prop:=
 if t.isAgg then ∃ vs,v = .agg vs∧Dat w F t d vs.toList else Dat w F t d [v]
abbrev Mp:=Nat→Option (Nat×Nat)
def Bh(o:Option Ob)(l:Option (Nat×Nat))(v:Value):Prop:=
 match o with
 |some (.arr _ t xs)=>match l with
  |none=>∃ a,v = .slice a 0 0
  |some (b,cap)=>v = .slice (some ⟨b,0,none⟩) (List.length (α:=t.den) xs) cap
 |some (.prs _ _ is)=>match l with
  |none=>∃ a,v = .slice a 0 0
  |some (b,cap)=>v = .slice (some ⟨b,0,none⟩) is.length cap
 |some .dead=>v.oneCell'=true
 |_=>False
def Gz(o:Option Ob)(l:Option (Nat×Nat))(off n:Nat)(v:Value):Prop:=
 match o with
 |some (.arr _ t xs)=>off+n≤List.length (α:=t.den) xs∧match l with
  |none=>∃ a,v = .slice a n 0
  |some (b,cap)=>∃ a,v = .slice a n (cap-off)∧(off<cap→a=some ⟨b,off*t.size,none⟩)
 |some .dead=>v.oneCell'=true
 |_=>False
def G0(o:Option Ob)(l:Option (Nat×Nat))(off:Nat)(v:Value):Prop:=
 match o with
 |some (.box _)=>∃ b c,l=some (b,c)∧v = .pointer (some ⟨b,off,none⟩)
 |some .dead=>v.oneCell'=true
 |_=>False
def Dt(o:Option Ob)(l:Option (Nat×Nat))(i sub:Nat)(v:Value):Prop:=
 match o with
 |some (.arr _ t xs)=>i<List.length (α:=t.den) xs∧∃ b c,l=some (b,c)∧v = .pointer (some ⟨b,i*t.size+sub,none⟩)
 |some (.prs _ _ is)=>i<is.length∧∃ b c,l=some (b,c)∧v = .pointer (some ⟨b,i+sub,none⟩)
 |some .dead=>v.oneCell'=true
 |_=>False
def O7(o:Option Ob)(l:Option (Nat×Nat))(v:Value):Prop:=
 match o with
 |some (.map _ _ _)=>∃ b c,l=some (b,c)∧v = .map (some b)
 |some .dead=>v.oneCell'=true
 |_=>False
theorem Bh.one{o:Ob}{l:Option (Nat×Nat)}{v:Value}(h:Bh (some o) l v):v.oneCell'=true:=by
 unfold Bh at h
 cases o<;>simp only at h<;>first|exact h.elim|exact h|skip
 all_goals
  cases l with
  |none=>obtain⟨a,rfl⟩:=h;rfl
  |some p=>obtain⟨b,c⟩:=p;simp only at h;subst h;rfl
theorem Gz.one{o:Ob}{l:Option (Nat×Nat)}{off n:Nat}{v:Value}(h:Gz (some o) l off n v):v.oneCell'=true:=by
 unfold Gz at h
 cases o<;>simp only at h<;>first|exact h.elim|exact h|skip
 obtain⟨_,h⟩:=h
 cases l with
 |none=>obtain⟨a,rfl⟩:=h;rfl
 |some p=>obtain⟨b,c⟩:=p;obtain⟨a,rfl,_⟩:=h;rfl
theorem G0.one{o:Ob}{l:Option (Nat×Nat)}{off:Nat}{v:Value}(h:G0 (some o) l off v):v.oneCell'=true:=by
 unfold G0 at h
 cases o<;>simp only at h<;>first|exact h.elim|exact h|skip
 obtain⟨b,c,_,rfl⟩:=h;rfl
theorem Dt.one{o:Ob}{l:Option (Nat×Nat)}{i sub:Nat}{v:Value}(h:Dt (some o) l i sub v):v.oneCell'=true:=by
 unfold Dt at h
 cases o<;>simp only at h<;>first|exact h.elim|exact h|skip
 all_goals obtain⟨_,b,c,_,rfl⟩:=h;rfl
theorem O7.one{o:Ob}{l:Option (Nat×Nat)}{v:Value}(h:O7 (some o) l v):v.oneCell'=true:=by
 unfold O7 at h
 cases o<;>simp only at h<;>first|exact h.elim|exact h|skip
 obtain⟨b,c,_,rfl⟩:=h;rfl
section
variable (w:World) (F:Nat→Prop) (m:Mp) (H:List Ob)
mutual
def Rep:AV→Value→Prop
 |.junk,_=>True
 |.data t d,v=>Bj w F t d v
 |.nils _,v=>v = .slice none 0 0
 |.agg cs,v=>∃ vs,v = .agg vs∧Ag cs vs.toList∧∀ u∈vs.toList,u.oneCell'=true
 |.own id,v=>Bh H[id]? (m id) v
 |.win id off n,v=>Gz H[id]? (m id) off n v
 |.ptr id off,v=>G0 H[id]? (m id) off v
 |.eptr id i sub,v=>Dt H[id]? (m id) i sub v
 |.dptr cs,v=>∃ ad us,v = .pointer (some ad)∧(cs≠[]→F ad.block)∧Ag cs us∧(∀ u∈us,u.oneCell'=true)∧∀ j u,us[j]? = some u→w.cell? (ad.add j)=some u
 |.clo f caps,v=>∃ cs,v = .func (.func f) #[] cs∧Ag caps cs.toList
 |.bnd f fs,v=>∃ cs,v = .func (.func f) cs #[]∧Ag fs cs.toList
 |.str xs,v=>∃ s,v = .string s∧bytesOf s=xs
 |.clip t xs,v=>Dat w F (.slice t) xs [v]∧∃ a,v = .slice a (List.length (α:=t.den) xs) (List.length (α:=t.den) xs)
 |.mp id,v=>O7 H[id]? (m id) v
 |.tup vs,v=>∃ us,v = .tuple us∧Ag vs us.toList
def Ag:List AV→List Value→Prop
 |[],vs=>vs=[]
 |c::cs,vs=>∃ v vs',vs=v::vs'∧Rep c v∧Ag cs vs'
end
end
def Aoe(w:World)(F:Nat→Prop)(k v:Ty)(e:k.den×v.den)(me:MapEntry):Prop:=Bj w F k e.1 me.key∧Bj w F v e.2 me.val
def IK(w:World)(F:Nat→Prop)(k v:Ty):List (k.den×v.den)→List MapEntry→Prop
 |[],ms=>ms=[]
 |e::es,ms=>∃ me ms',ms=me::ms'∧Aoe w F k v e me∧IK w F k v es ms'
def H0(ms:Array MapEntry)(clock:Nat):Prop:=clock=ms.size∧∀ (i:Nat) (e:MapEntry),ms[i]? = some e→e.born=i
def ObI(w:World)(F:Nat→Prop)(m:Mp)(H:List Ob)(o:Ob)(l:Option (Nat×Nat)):Prop:=
 match o with
 |.free=>True
 |.dead=>True
 |.box cs=>∃ b c vs T,l=some (b,c)∧w.heap[b]? = some (.cells vs T (0,0))∧Ag w F m H cs vs.toList∧∀ u∈vs.toList,u.oneCell'=true
 |.arr T t xs=>0<t.size∧match l with
  |none=>xs=[]
  |some (b,cap)=>∃ vs row,w.heap[b]? = some (.cells vs T (0,0))∧List.length (α:=t.den) xs≤cap∧cap≤maxLen∧vs.size=cap*t.size∧rows (Dat w F t) xs row∧vs.toList.take row.length=row
 |.map k v es=>∃ b c ms clock,l=some (b,c)∧w.heap[b]? = some (.map ms clock)∧IK w F k v es ms.toList∧H0 ms clock
 |.prs T tgt is=>match l with
  |none=>is=[]
  |some (b,cap)=>∃ vs us,w.heap[b]? = some (.cells vs T (0,0))∧is.length≤cap∧cap≤maxLen∧vs.size=cap∧Ag w F m H (FY tgt is) us∧(∀ u∈us,u.oneCell'=true)∧vs.toList.take us.length=us
def owned(H:List Ob)(fz:List Bool)(i:Nat):Prop:=
 match H[i]? with
 |some (.box _)=>True
 |some (.map _ _ _)=>True
 |some (.prs _ _ _)=>True
 |some (.arr _ _ _)=>fz.getD i false=false
 |_=>False
structure HI(w:World)(F:Nat→Prop)(m:Mp)(H:List Ob)(fz:List Bool):Prop where
 obj:∀ id o,H[id]? = some o→ObI w F m H o (m id)
 sep:∀ i j b c b' c',owned H fz i→owned H fz j→i≠j→m i=some (b,c)→m j=some (b',c')→b≠b'
 off:∀ i b c,owned H fz i→m i=some (b,c)→¬ F b
 froz:∀ i T t xs b c,H[i]? = some (.arr T t xs)→fz.getD i false=true→m i=some (b,c)→F b
 lt:∀ b,F b→b<w.heap.size
 len:H.length=fz.length
def sameShape:Ob→Ob→Prop
 |.box _,.box _=>True
 |.map _ _ _,.map _ _ _=>True
 |.prs _ _ is,.prs _ _ is'=>is.length=is'.length
 |.arr _ t xs,.arr _ t' xs'=>t.size=t'.size∧List.length (α:=t.den) xs=List.length (α:=t'.den) xs'
 |_,_=>False
def C7(H H':List Ob)(m m':Mp):Prop:=
 ∀ i o,H[i]? = some o→o≠.free→H'[i]? = some .dead∨(o≠.dead∧∃ o',H'[i]? = some o'∧sameShape o o'∧m' i=m i)
structure Ext(w:World)(F:Nat→Prop)(m:Mp)(H:List Ob)(fz:List Bool)(w':World)(F':Nat→Prop)(m':Mp)(H':List Ob)(fz':List Bool):Prop where
 os:w'.os=w.os
 tape:w'.tape=w.tape
 output:w'.output=w.output
 size:w.heap.size≤w'.heap.size
 keep:∀ b,b<w.heap.size→(∀ i c,owned H fz i→m i≠some (b,c))→w'.heap[b]? = w.heap[b]?
 sub:∀ b,F b→F' b
 bnd:∀ b,F' b→F b∨(∃ i c,owned H fz i∧m i=some (b,c))∨w.heap.size≤b
 own:∀ i b c,owned H' fz' i→m' i=some (b,c)→(∃ i c,owned H fz i∧m i=some (b,c))∨w.heap.size≤b
 comp:C7 H H' m m'
theorem BN{α:Type}{R R':α→List Value→Prop}{xs:List α}(h:∀ x∈xs,∀ cs,R x cs→R' x cs):∀ {cs},rows R xs cs→rows R' xs cs:=by
 induction xs with
 |nil=>exact fun h=>h
 |cons x xs ih=>
  rintro cs ⟨c1,c2,rfl,h1,h2⟩
  exact⟨c1,c2,rfl,h x (by simp) _ h1,ih (fun y hy=>h y (by simp[hy])) h2⟩
theorem Dat.mono{w w':World}{F F':Nat→Prop}(hc:∀ a:Addr,F a.block→w'.cell? a=w.cell? a)(hF:∀ b,F b→F' b):
  ∀ (t:Ty) {d:t.den} {cs:List Value},Dat w F t d cs→Dat w' F' t d cs:=by
 have hadd:∀ (a:Addr) (n:Nat),(a.add n).block=a.block:=fun a n=>by unfold Addr.add;split<;>rfl
 intro t
 induction t with
 |unit=>exact fun h=>h
 |bool=>exact fun h=>h
 |int k=>exact fun h=>h
 |slice e ih=>
  rintro d cs ⟨a,cap,h1,h2,h3⟩
  refine⟨a,cap,h1,h2,fun hne => ?_⟩
  obtain⟨ad,row,e1,e2,e3,e4⟩:=h3 hne
  exact⟨ad,row,e1,hF _ e2,BN (fun x _ cs hx=>ih hx) e3,fun j u hu=>(hc _ (by rw[hadd];exact e2)).trans (e4 j u hu)⟩
 |prod a b iha ihb=>
  rintro d cs ⟨c1,c2,h1,h2,h3⟩
  exact⟨c1,c2,h1,iha h2,ihb h3⟩
 |arr n e ih=>
  rintro d cs ⟨h1,h2⟩
  exact⟨h1,BN (fun x _ cs hx=>ih hx) h2⟩
 |nul e=>exact fun h=>h
theorem Bj.mono{w w':World}{F F':Nat→Prop}(hc:∀ a:Addr,F a.block→w'.cell? a=w.cell? a)(hF:∀ b,F b→F' b)
  {t:Ty} {d:t.den} {v:Value} (h:Bj w F t d v):Bj w' F' t d v:=by
 unfold Bj at *
 split
 ·rename_i hg
  simp only[hg,Ap6]at h
  obtain⟨vs,e,hd⟩:=h
  exact⟨vs,e,hd.mono hc hF t⟩
 ·rename_i hg
  simp only[hg]at h
  exact Dat.mono hc hF t h
theorem A7{α:Type}{R:α→List Value→Prop}{n:Nat}(h:∀ x cs,R x cs→cs.length=n):∀ {xs:List α} {cs},rows R xs cs→cs.length=xs.length*n:=by
 intro xs
 induction xs with
 |nil=>rintro cs rfl;simp
 |cons x xs ih=>
  rintro cs ⟨c1,c2,rfl,h1,h2⟩
  rw[ApS,h _ _ h1,ih h2,ApW,AqW,Aq4,Nat.add_comm]
theorem Dat.length{w:World}{F:Nat→Prop}:∀ (t:Ty) {d:t.den} {cs:List Value},Dat w F t d cs→cs.length=t.size:=by
 intro t
 induction t with
 |unit=>rintro d cs rfl;rfl
 |bool=>rintro d cs rfl;rfl
 |int k=>rintro d cs rfl;rfl
 |slice e ih=>rintro d cs ⟨a,cap,rfl,_,_⟩;rfl
 |prod a b iha ihb=>
  rintro d cs ⟨c1,c2,rfl,h2,h3⟩
  rw[ApS,iha h2,ihb h3];rfl
 |arr n e ih=>
  rintro d cs ⟨h1,h2⟩
  rw[A7 (fun x cs hx=>ih hx) h2,h1];rfl
 |nul e=>rintro d cs rfl;rfl
theorem ABZ{α:Type}{R:α→List Value→Prop}{p:Value→Prop}(h:∀ x cs,R x cs→∀ u∈cs,p u):∀ {xs:List α} {cs},rows R xs cs→∀ u∈cs,p u:=by
 intro xs
 induction xs with
 |nil=>rintro cs rfl u hu;cases hu
 |cons x xs ih=>
  rintro cs ⟨c1,c2,rfl,h1,h2⟩ u hu
  rcases ApR.1 hu with hu|hu
  ·exact h _ _ h1 u hu
  ·exact ih h2 u hu
theorem Dat.IV{w:World}{F:Nat→Prop}:∀ (t:Ty) {d:t.den} {cs:List Value},Dat w F t d cs→∀ u∈cs,u.oneCell'=true:=by
 intro t
 induction t with
 |unit=>rintro d cs rfl u hu;cases hu
 |bool=>rintro d cs rfl u hu;simp at hu;subst hu;rfl
 |int k=>rintro d cs rfl u hu;simp at hu;subst hu;rfl
 |slice e ih=>rintro d cs ⟨a,cap,rfl,_,_⟩ u hu;simp at hu;subst hu;rfl
 |prod a b iha ihb=>
  rintro d cs ⟨c1,c2,rfl,h2,h3⟩ u hu
  rcases ApR.1 hu with hu|hu
  ·exact iha h2 u hu
  ·exact ihb h3 u hu
 |arr n e ih=>
  rintro d cs ⟨h1,h2⟩
  exact ABZ (fun x cs hx=>ih hx) h2
 |nul e=>rintro d cs rfl u hu;simp at hu;subst hu;rfl
theorem Aq{w:World}{F:Nat→Prop}{m:Mp}{H:List Ob}:∀ {cs:List AV} {vs:List Value},Ag w F m H cs vs→vs.length=cs.length:=by
 intro cs
 induction cs with
 |nil=>intro vs h;unfold Ag at h;subst h;rfl
 |cons c cs ih=>
  intro vs h;unfold Ag at h
  obtain⟨v,vs',rfl,_,h⟩:=h
  simp[ih h]
theorem CL{w:World}{F:Nat→Prop}{m:Mp}{H:List Ob}:∀ {cs:List AV} {vs:List Value},Ag w F m H cs vs→∀ {i:Nat} {c:AV},cs[i]? = some c→∃ v,vs[i]? = some v∧Rep w F m H c v:=by
 intro cs
 induction cs with
 |nil=>intro vs _ i c hc;simp at hc
 |cons c cs ih=>
  intro vs h i c' hc;unfold Ag at h
  obtain⟨v,vs',rfl,hv,h⟩:=h
  cases i with
  |zero=>simp at hc;subst hc;exact⟨v,rfl,hv⟩
  |succ i=>simpa using ih h (by simpa using hc)
theorem DI{w:World}{F:Nat→Prop}{m:Mp}{H:List Ob}:∀ {cs:List AV} {vs:List Value},vs.length=cs.length→(∀ (i:Nat) (c:AV) (v:Value),cs[i]? = some c→vs[i]? = some v→Rep w F m H c v)→Ag w F m H cs vs:=by
 intro cs
 induction cs with
 |nil=>intro vs h _;unfold Ag;exact Apq h
 |cons c cs ih=>
  intro vs hl h;unfold Ag
  match vs,hl with
  |v::vs',hl=>exact⟨v,vs',rfl,h 0 c v rfl rfl,ih (by simpa using hl) fun i c v hc hv=>h (i+1) c v (by simpa using hc) (by simpa using hv)⟩
theorem Gn{w:World}{F:Nat→Prop}{m:Mp}{H:List Ob}{cs cs':List AV}{vs vs':List Value}(h:Ag w F m H cs vs)(h':Ag w F m H cs' vs'):Ag w F m H (cs++cs') (vs++vs'):=by
 induction cs generalizing vs with
 |nil=>unfold Ag at h;subst h;simpa using h'
 |cons c cs ih=>
  unfold Ag at h
  obtain⟨v,vs1,rfl,hv,h⟩:=h
  simp only[Aps]
  unfold Ag
  exact⟨v,_,rfl,hv,ih h⟩
theorem OG{w:World}{F:Nat→Prop}{m:Mp}{H:List Ob}{cs:List AV}{vs:List Value}(h:Ag w F m H cs vs)(n:Nat):Ag w F m H (cs.take n) (vs.take n):=by
 refine DI (by simp[Aq h]) fun i c v hc hv => ?_
 rw[AqK]at hc hv
 split at hc
 ·rename_i hi
  simp only[hi,Ap6]at hv
  obtain⟨v',hv',hr⟩:=CL h hc
  rw[hv]at hv';cases hv';exact hr
 ·cases hc
theorem Em{w:World}{F:Nat→Prop}{m:Mp}{H:List Ob}{cs:List AV}{vs:List Value}(h:Ag w F m H cs vs)(n:Nat):Ag w F m H (cs.drop n) (vs.drop n):=by
 refine DI (by simp[Aq h]) fun i c v hc hv => ?_
 rw[AqR]at hc hv
 obtain⟨v',hv',hr⟩:=CL h hc
 rw[hv]at hv';cases hv';exact hr
section
variable {w w':World} {F F':Nat→Prop} {m m':Mp} {H H':List Ob}
theorem Hx(hcomp:C7 H H' m m')(P:Option Ob→Option (Nat×Nat)→Prop)(hdead:∀ o l l',P (some o) l→P (some .dead) l')(hnone:∀ l,¬ P none l)(hfree:∀ l,¬ P (some .free) l)
  (hsame:∀ o o' l,sameShape o o'→P (some o) l→P (some o') l) (i:Nat) (h:P H[i]? (m i)):P H'[i]? (m' i):=by
 cases ho:H[i]? with
 |none=>rw[ho]at h;exact absurd h (hnone _)
 |some o=>
  rw[ho]at h
  by_cases hf:o = .free
  ·subst hf;exact absurd h (hfree _)
  ·rcases hcomp i o ho hf with h1|⟨_,o',h1,h2,h3⟩
   ·rw[h1];exact hdead _ _ _ h
   ·rw[h1,h3];exact hsame o o' _ h2 h
mutual
theorem Rep.mono(hc:∀ a:Addr,F a.block→w'.cell? a=w.cell? a)(hF:∀ b,F b→F' b)(hcomp:C7 H H' m m'):∀ (a:AV) {v:Value},Rep w F m H a v→Rep w' F' m' H' a v
 |.junk,_,_=>by unfold Rep;trivial
 |.data t d,v,h=>by unfold Rep at *;exact h.mono hc hF
 |.nils _,v,h=>by unfold Rep at *;exact h
 |.agg cs,v,h=>by
  unfold Rep at *
  obtain⟨vs,e,h,h1⟩:=h
  exact⟨vs,e,Ag.mono hc hF hcomp cs h,h1⟩
 |.own id,v,h=>by
  unfold Rep at *
  refine Hx hcomp (fun o l=>Bh o l v) (fun o l l'=>Bh.one) (fun l h=>h) (fun l h=>h) ?_ id h
  intro o o' l hs h
  cases o<;>cases o'<;>simp only[sameShape]at hs<;>try exact hs.elim
  ·exact h.elim
  ·obtain⟨hz,hl⟩:=hs
   unfold Bh at *
   simp only at *
   rw[← hl];exact h
  ·exact h.elim
  ·unfold Bh at *
   simp only at *
   rw[← hs];exact h
 |.win id off n,v,h=>by
  unfold Rep at *
  refine Hx hcomp (fun o l=>Gz o l off n v) (fun o l l'=>Gz.one) (fun l h=>h) (fun l h=>h) ?_ id h
  intro o o' l hs h
  cases o<;>cases o'<;>simp only[sameShape]at hs<;>try exact hs.elim
  ·exact h.elim
  ·obtain⟨hz,hl⟩:=hs
   unfold Gz at *
   simp only at *
   rw[← hl,← hz];exact h
  ·exact h.elim
  ·exact h.elim
 |.ptr id off,v,h=>by
  unfold Rep at *
  refine Hx hcomp (fun o l=>G0 o l off v) (fun o l l'=>G0.one) (fun l h=>h) (fun l h=>h) ?_ id h
  intro o o' l hs h
  cases o<;>cases o'<;>simp only[sameShape]at hs<;>try exact hs.elim
  ·exact h
  ·exact h.elim
  ·exact h.elim
  ·exact h.elim
 |.eptr id i sub,v,h=>by
  unfold Rep at *
  refine Hx hcomp (fun o l=>Dt o l i sub v) (fun o l l'=>Dt.one) (fun l h=>h) (fun l h=>h) ?_ id h
  intro o o' l hs h
  cases o<;>cases o'<;>simp only[sameShape]at hs<;>try exact hs.elim
  ·exact h.elim
  ·obtain⟨hz,hl⟩:=hs
   unfold Dt at *
   simp only at *
   rw[← hl,← hz];exact h
  ·exact h.elim
  ·unfold Dt at *
   simp only at *
   rw[← hs];exact h
 |.dptr cs,v,h=>by
  unfold Rep at *
  obtain⟨ad,us,e,h1,h2,h4,h3⟩:=h
  refine⟨ad,us,e,fun hne=>hF _ (h1 hne),Ag.mono hc hF hcomp cs h2,h4,fun j u hu => ?_⟩
  have hadd:(ad.add j).block=ad.block:=by unfold Addr.add;split<;>rfl
  have hne:cs≠[]:=by
   rintro rfl
   unfold Ag at h2;subst h2;simp at hu
  rw[hc _ (by rw[hadd];exact h1 hne)]
  exact h3 j u hu
 |.clo f caps,v,h=>by
  unfold Rep at *
  obtain⟨cs,e,h⟩:=h
  exact⟨cs,e,Ag.mono hc hF hcomp caps h⟩
 |.bnd f caps,v,h=>by
  unfold Rep at *
  obtain⟨cs,e,h⟩:=h
  exact⟨cs,e,Ag.mono hc hF hcomp caps h⟩
 |.str _,v,h=>by unfold Rep at *;exact h
 |.clip t xs,v,h=>by unfold Rep at *;exact⟨Dat.mono hc hF (.slice t) h.1,h.2⟩
 |.mp id,v,h=>by
  unfold Rep at *
  refine Hx hcomp (fun o l=>O7 o l v) (fun o l l'=>O7.one) (fun l h=>h) (fun l h=>h) ?_ id h
  intro o o' l hs h
  cases o<;>cases o'<;>simp only[sameShape]at hs<;>try exact hs.elim
  ·exact h.elim
  ·exact h.elim
  ·exact h
  ·exact h.elim
 |.tup vs,v,h=>by
  unfold Rep at *
  obtain⟨us,e,h⟩:=h
  exact⟨us,e,Ag.mono hc hF hcomp vs h⟩
theorem Ag.mono(hc:∀ a:Addr,F a.block→w'.cell? a=w.cell? a)(hF:∀ b,F b→F' b)(hcomp:C7 H H' m m'):∀ (cs:List AV) {vs:List Value},Ag w F m H cs vs→Ag w' F' m' H' cs vs
 |[],vs,h=>by unfold Ag at *;exact h
 |c::cs,vs,h=>by
  unfold Ag at *
  obtain⟨v,vs',e,h1,h2⟩:=h
  exact⟨v,vs',e,Rep.mono hc hF hcomp c h1,Ag.mono hc hF hcomp cs h2⟩
end
theorem C7.refl(H:List Ob)(m:Mp):C7 H H m m:=by
 intro i o ho _
 by_cases hd:o = .dead
 ·subst hd;exact .inl ho
 ·refine .inr ⟨hd,o,ho,?_,rfl⟩
  cases o<;>simp_all [sameShape]
theorem sameShape.trans{a b c:Ob}(h:sameShape a b)(h':sameShape b c):sameShape a c:=by
 cases a<;>cases b<;>simp only[sameShape]at h<;>(try exact h.elim)<;>cases c<;>simp only[sameShape]at h'<;>(try exact h'.elim)<;>simp only[sameShape]
 ·exact⟨h.1.trans h'.1,h.2.trans h'.2⟩
 ·exact h.trans h'
theorem C7.trans{a b c:List Ob}{m m' m'':Mp}(h:C7 a b m m')(h':C7 b c m' m''):C7 a c m m'':=by
 intro i o ho hf
 rcases h i o ho hf with h1|⟨hd,o',h1,h2,h3⟩
 ·rcases h' i _ h1 (by simp)with h4|⟨h5,_⟩
  ·exact .inl h4
  ·exact absurd rfl h5
 ·have hf':o'≠.free:=by rintro rfl;cases o<;>simp[sameShape]at h2
  rcases h' i o' h1 hf' with h4|⟨_,o'',h4,h5,h6⟩
  ·exact .inl h4
  ·exact .inr ⟨hd,o'',h4,h2.trans h5,h6.trans h3⟩
theorem Ext.refl(w:World)(F:Nat→Prop)(m:Mp)(H:List Ob)(fz:List Bool):Ext w F m H fz w F m H fz:=
 ⟨rfl,rfl,rfl,ApY _,fun _ _ _=>rfl,fun _ h=>h,fun _ h=>.inl h,fun i b c h1 h2=>.inl ⟨i,c,h1,h2⟩,C7.refl H m⟩
theorem Ext.trans{w w1 w2:World}{F F1 F2:Nat→Prop}{m m1 m2:Mp}{H H1 H2:List Ob}{fz fz1 fz2:List Bool}
  (h:Ext w F m H fz w1 F1 m1 H1 fz1) (k:Ext w1 F1 m1 H1 fz1 w2 F2 m2 H2 fz2):Ext w F m H fz w2 F2 m2 H2 fz2 where
 os:=k.os.trans h.os
 tape:=k.tape.trans h.tape
 output:=k.output.trans h.output
 size:=AqN h.size k.size
 keep b hb hn:=by
  rw[k.keep b (ArA hb h.size) ?_,h.keep b hb hn]
  intro i c ho he
  rcases h.own i b c ho he with⟨i',c',h1,h2⟩|h1
  ·exact hn i' c' h1 h2
  ·omega
 sub b hb:=k.sub b (h.sub b hb)
 bnd b hb:=by
  rcases k.bnd b hb with h1|⟨i,c,h1,h2⟩|h1
  ·exact h.bnd b h1
  ·rcases h.own i b c h1 h2 with h3|h3
   ·exact .inr (.inl h3)
   ·exact .inr (.inr h3)
  ·exact .inr (.inr (AqN h.size h1))
 own i b c h1 h2:=by
  rcases k.own i b c h1 h2 with⟨i',c',h3,h4⟩|h3
  ·exact h.own i' b c' h3 h4
  ·exact .inr (AqN h.size h3)
 comp:=h.comp.trans k.comp
theorem Ext.frozen{fz fz':List Bool}(hi:HI w F m H fz)(h:Ext w F m H fz w' F' m' H' fz'){b:Nat}(hb:F b):w'.heap[b]? = w.heap[b]? :=
 h.keep b (hi.lt b hb) fun i c ho he=>hi.off i b c ho he hb
theorem Ext.cell{fz fz':List Bool}(hi:HI w F m H fz)(h:Ext w F m H fz w' F' m' H' fz')(a:Addr)(ha:F a.block):w'.cell? a=w.cell? a:=by
 simp[World.cell?,h.frozen hi ha]
theorem Ext.rep{fz fz':List Bool}(hi:HI w F m H fz)(h:Ext w F m H fz w' F' m' H' fz'){a:AV}{v:Value}(hr:Rep w F m H a v):Rep w' F' m' H' a v:=
 Rep.mono (h.cell hi) h.sub h.comp a hr
theorem Ext.ApF{fz fz':List Bool}(hi:HI w F m H fz)(h:Ext w F m H fz w' F' m' H' fz'){a:List AV}{v:List Value}(hr:Ag w F m H a v):Ag w' F' m' H' a v:=
 Ag.mono (h.cell hi) h.sub h.comp a hr
theorem Ext.dat{fz fz':List Bool}(hi:HI w F m H fz)(h:Ext w F m H fz w' F' m' H' fz'){t:Ty}{d:t.den}{v:List Value}(hr:Dat w F t d v):Dat w' F' t d v:=
 hr.mono (h.cell hi) h.sub t
theorem IK.mono{k v:Ty}(hc:∀ a:Addr,F a.block→w'.cell? a=w.cell? a)(hF:∀ b,F b→F' b):
  ∀ {es:List (k.den×v.den)} {ms:List MapEntry},IK w F k v es ms→IK w' F' k v es ms:=by
 intro es
 induction es with
 |nil=>exact fun h=>h
 |cons e es ih=>
  rintro ms ⟨me,ms',e1,⟨h1,h2⟩,h3⟩
  exact⟨me,ms',e1,⟨h1.mono hc hF,h2.mono hc hF⟩,ih h3⟩
end
end Go.Pev
end
section
namespace Go.Pev
open Go.RowKit
theorem BQ{w:World}{b:Nat}{o:Obj}(h:w.heap[b]? = some o):b<w.heap.size:=by
 rcases AqV b w.heap.size with h'|h'
 ·exact h'
 ·simp[Array.getElem?_eq_none h']at h
theorem ObI.mono{w w':World}{F F':Nat→Prop}{m m':Mp}{H H':List Ob}{o:Ob}{l:Option (Nat×Nat)}
  (hc:∀ a:Addr,F a.block→w'.cell? a=w.cell? a) (hF:∀ b,F b→F' b) (hcomp:C7 H H' m m')
  (hb:o≠.free→o≠.dead→∀ b c,l=some (b,c)→b<w.heap.size→w'.heap[b]? = w.heap[b]?) (h:ObI w F m H o l):ObI w' F' m' H' o l:=by
 cases o with
 |free=>trivial
 |dead=>trivial
 |box cs=>
  obtain⟨b,c,vs,T,e1,e2,e3,e4⟩:=h
  exact⟨b,c,vs,T,e1,(hb (by simp) (by simp) b c e1 (BQ e2)).trans e2,Ag.mono hc hF hcomp cs e3,e4⟩
 |arr T t xs=>
  obtain⟨h0,h⟩:=h
  refine⟨h0,?_⟩
  cases l with
  |none=>exact h
  |some p=>
   obtain⟨b,cap⟩:=p
   obtain⟨vs,row,e1,e2,e3,e4,e5,e6⟩:=h
   exact⟨vs,row,(hb (by simp) (by simp) b cap rfl (BQ e1)).trans e1,e2,e3,e4,BN (fun x _ cs hx=>hx.mono hc hF t) e5,e6⟩
 |map k v es=>
  obtain⟨b,c,ms,clock,e1,e2,e3,e4⟩:=h
  exact⟨b,c,ms,clock,e1,(hb (by simp) (by simp) b c e1 (BQ e2)).trans e2,IK.mono hc hF e3,e4⟩
 |prs T tgt is=>
  cases l with
  |none=>exact h
  |some p=>
   obtain⟨b,cap⟩:=p
   obtain⟨vs,us,e1,e2,e3,e4,e5,e6,e7⟩:=h
   exact⟨vs,us,(hb (by simp) (by simp) b cap rfl (BQ e1)).trans e1,e2,e3,e4,Ag.mono hc hF hcomp _ e5,e6,e7⟩
theorem HI.ne{w:World}{F:Nat→Prop}{m:Mp}{H:List Ob}{fz:List Bool}(hi:HI w F m H fz){i j:Nat}{b c b' c':Nat}(ho:owned H fz j)
  (hj:m j=some (b',c')) {o:Ob} (hio:H[i]? = some o) (hal:o≠.free) (hal':o≠.dead) (hi':m i=some (b,c)) (hne:i≠j):b≠b':=by
 by_cases hoi:owned H fz i
 ·exact hi.sep i j b c b' c' hoi ho hne hi' hj
 ·cases o with
  |free=>exact absurd rfl hal
  |dead=>exact absurd rfl hal'
  |box cs=>exact absurd (by simp[owned,hio]) hoi
  |map k v es=>exact absurd (by simp[owned,hio]) hoi
  |prs T tgt is=>exact absurd (by simp[owned,hio]) hoi
  |arr T t xs=>
   have hf:fz.getD i false=true:=by
    cases hx:fz.getD i false with
    |true=>rfl
    |false=>exact absurd (by simp only[owned,hio];exact hx) hoi
   have h1:=hi.froz i T t xs b c hio hf hi'
   rintro rfl
   exact hi.off j b c' ho hj h1
theorem CA{H:List Ob}{fz:List Bool}{i:Nat}(h:owned H fz i):∃ o,H[i]? = some o∧o≠.free∧o≠.dead:=by
 unfold owned at h
 split at h
 ·rename_i h1;exact⟨_,h1,by simp,by simp⟩
 ·rename_i h1;exact⟨_,h1,by simp,by simp⟩
 ·rename_i h1;exact⟨_,h1,by simp,by simp⟩
 ·rename_i h1;exact⟨_,h1,by simp,by simp⟩
 ·exact h.elim
theorem HI.Mk{w:World}{F:Nat→Prop}{m:Mp}{H:List Ob}{fz:List Bool}(hi:HI w F m H fz){i b c:Nat}(h:owned H fz i)(hm:m i=some (b,c)):b<w.heap.size:=by
 obtain⟨o,ho,h1,h2⟩:=CA h
 have:=hi.obj i o ho
 rw[hm]at this
 cases o with
 |free=>exact absurd rfl h1
 |dead=>exact absurd rfl h2
 |box cs=>obtain⟨b,c,vs,T,e1,e2,_⟩:=this;cases e1;exact BQ e2
 |map k v es=>obtain⟨b,c,vs,T,e1,e2,_⟩:=this;cases e1;exact BQ e2
 |arr T t xs=>obtain⟨_,vs,row,e1,_⟩:=this;exact BQ e1
 |prs T tgt is=>obtain⟨vs,us,e1,_⟩:=this;exact BQ e1
def Av(w:World)(F:Nat→Prop)(m:Mp)(H:List Ob)(fz:List Bool)(w':World)(F':Nat→Prop)(m':Mp)(H':List Ob)(fz':List Bool):Prop:=
 Ext w F m H fz w' F' m' H' fz'∧HI w' F' m' H' fz'
theorem Av.trans{w w1 w2:World}{F F1 F2:Nat→Prop}{m m1 m2:Mp}{H H1 H2:List Ob}{fz fz1 fz2:List Bool}
  (h:Av w F m H fz w1 F1 m1 H1 fz1) (k:Av w1 F1 m1 H1 fz1 w2 F2 m2 H2 fz2):Av w F m H fz w2 F2 m2 H2 fz2:=⟨h.1.trans k.1,k.2⟩
section
variable {w w':World} {F:Nat→Prop} {m:Mp} {H:List Ob} {fz:List Bool}
theorem Av.refl(hi:HI w F m H fz):Av w F m H fz w F m H fz:=⟨Ext.refl ..,hi⟩
theorem Av.grow(hi:HI w F m H fz)(h1:w'.os=w.os)(h2:w'.tape=w.tape)(h3:w'.output=w.output)(hsz:w.heap.size≤w'.heap.size)(hb:∀ b,b<w.heap.size→w'.heap[b]? = w.heap[b]?):
  Av w F m H fz w' F m H fz:=by
 refine⟨⟨h1,h2,h3,hsz,fun b h _=>hb b h,fun _ h=>h,fun _ h=>.inl h,fun i b c h1 h2=>.inl ⟨i,c,h1,h2⟩,C7.refl H m⟩,?_,hi.sep,hi.off,hi.froz,fun b h=>ArA (hi.lt b h) hsz,hi.len⟩
 exact fun id o ho=>ObI.mono (fun a ha=>by simp[World.cell?,hb _ (hi.lt _ ha)]) (fun _ h=>h) (C7.refl H m) (fun _ _ b c _ hlt=>hb b hlt) (hi.obj id o ho)
theorem Av.drew(hi:HI w F m H fz):Av w F m H fz w.drew F m H fz:=Av.grow hi rfl rfl rfl (ApY _) fun _ _=>rfl
def upd(m:Mp)(i:Nat)(l:Option (Nat×Nat)):Mp:=fun j=>if j=i then l else m j
theorem Ar(m:Mp)(i:Nat)(l:Option (Nat×Nat)):upd m i l i=l:=by simp[upd]
theorem BU{m:Mp}{i j:Nat}{l:Option (Nat×Nat)}(h:j≠i):upd m i l j=m j:=by simp[upd,h]
theorem A1{H:List Ob}{i j:Nat}{o:Ob}(h:j≠i):(H.set i o)[j]? = H[j]? := by rw[AqU (AqH h)]
theorem BW{slot:Nat}(h:Au H fz slot=true):H[slot]? = some .free∧fz.getD slot false=false:=by
 unfold Au at h
 split at h
 ·rename_i h1;exact⟨h1,by simpa using h⟩
 ·cases h
theorem At{H:List Ob}{i:Nat}{o:Ob}(h:H[i]? = some o):i<H.length:=by
 rcases AqV i H.length with h'|h'
 ·exact h'
 ·rw[Apm h']at h;cases h
theorem BM{H:List Ob}{i:Nat}{o:Ob}(h:i<H.length):(H.set i o)[i]? = some o:=by simp[h]
def alive:Ob→Prop
 |.free=>False
 |.dead=>False
 |_=>True
theorem Av.new(hi:HI w F m H fz){slot:Nat}(hs:Au H fz slot=true){ob:Ob}(hal:alive ob)(l:Option (Nat×Nat))
  (h1:w'.os=w.os) (h2:w'.tape=w.tape) (h3:w'.output=w.output) (hsz:w.heap.size≤w'.heap.size) (hb:∀ b,b<w.heap.size→w'.heap[b]? = w.heap[b]?)
  (hl:∀ b c,l=some (b,c)→w.heap.size≤b)
  (ho:(∀ {a:AV} {v:Value},Rep w F m H a v→Rep w' F (upd m slot l) (H.set slot ob) a v)→ObI w' F (upd m slot l) (H.set slot ob) ob l) :
  Av w F m H fz w' F (upd m slot l) (H.set slot ob) fz:=by
 obtain⟨hs1,hs2⟩:=BW hs
 have hlt:=At hs1
 have hcell:∀ a:Addr,F a.block→w'.cell? a=w.cell? a:=fun a ha=>by simp[World.cell?,hb _ (hi.lt _ ha)]
 have hcomp:C7 H (H.set slot ob) m (upd m slot l):=by
  intro i o hio hf
  have hne:i≠slot:=by rintro rfl;rw[hs1]at hio;cases hio;exact hf rfl
  rcases C7.refl H m i o hio hf with h|⟨hd,o',h4,h5,_⟩
  ·exact .inl (by rw[A1 hne];exact h)
  ·exact .inr ⟨hd,o',by rw[A1 hne];exact h4,h5,BU hne⟩
 have hown:∀ i,i≠slot→(owned (H.set slot ob) fz i↔owned H fz i):=fun i hne=>by unfold owned;rw[A1 hne]
 refine⟨⟨h1,h2,h3,hsz,fun b h _=>hb b h,fun _ h=>h,fun _ h=>.inl h,?_,hcomp⟩,⟨?_,?_,?_,?_,fun b h=>ArA (hi.lt b h) hsz,by simpa using hi.len⟩⟩
 ·intro i b c ho' hm
  by_cases hne:i=slot
  ·subst hne;rw[Ar]at hm;exact .inr (hl b c hm)
  ·rw[BU hne]at hm;exact .inl ⟨i,c,(hown i hne).1 ho',hm⟩
 ·intro id o hio
  by_cases hne:id=slot
  ·subst hne
   rw[BM hlt]at hio;cases hio
   rw[Ar]
   exact ho fun h=>Rep.mono hcell (fun _ h=>h) hcomp _ h
  ·rw[A1 hne]at hio
   rw[BU hne]
   exact ObI.mono hcell (fun _ h=>h) hcomp (fun _ _ b c _ hlt=>hb b hlt) (hi.obj id o hio)
 ·intro i j b c b' c' hoi hoj hij hmi hmj
  by_cases hi1:i=slot
  ·subst hi1
   have hj1:j≠i:=AqH hij
   rw[Ar]at hmi
   rw[BU hj1]at hmj
   have:=hi.Mk ((hown j hj1).1 hoj) hmj
   have:=hl b c hmi
   omega
  ·rw[BU hi1]at hmi
   by_cases hj1:j=slot
   ·subst hj1
    rw[Ar]at hmj
    have:=hi.Mk ((hown i hi1).1 hoi) hmi
    have:=hl b' c' hmj
    omega
   ·rw[BU hj1]at hmj
    exact hi.sep i j b c b' c' ((hown i hi1).1 hoi) ((hown j hj1).1 hoj) hij hmi hmj
 ·intro i b c hoi hmi hF
  by_cases hi1:i=slot
  ·subst hi1;rw[Ar]at hmi
   have:=hl b c hmi
   have:=hi.lt b hF
   omega
  ·rw[BU hi1]at hmi
   exact hi.off i b c ((hown i hi1).1 hoi) hmi hF
 ·intro i T t xs b c hio hf hmi
  by_cases hi1:i=slot
  ·subst hi1;rw[hs2]at hf;cases hf
  ·rw[BU hi1]at hmi;rw[A1 hi1]at hio
   exact hi.froz i T t xs b c hio hf hmi
theorem Av.set(hi:HI w F m H fz){j b c:Nat}(hoj:owned H fz j)(hmj:m j=some (b,c)){o o':Ob}(hj:H[j]? = some o)(hss:sameShape o o')
  (h1:w'.os=w.os) (h2:w'.tape=w.tape) (h3:w'.output=w.output) (hsz:w'.heap.size=w.heap.size) (hb:∀ k,k≠b→w'.heap[k]? = w.heap[k]?)
  (ho:(∀ {a:AV} {v:Value},Rep w F m H a v→Rep w' F m (H.set j o') a v)→ObI w' F m (H.set j o') o' (m j)) :
  Av w F m H fz w' F m (H.set j o') fz:=by
 have hlt:=At hj
 have hcell:∀ a:Addr,F a.block→w'.cell? a=w.cell? a:=fun a ha=>by
  have:a.block≠b:=by rintro e;exact hi.off j b c hoj hmj (e▸ha)
  simp[World.cell?,hb _ this]
 have hcomp:C7 H (H.set j o') m m:=by
  intro i x hix hf
  by_cases hne:i=j
  ·subst hne
   rw[hj]at hix;cases hix
   exact .inr ⟨by rintro rfl;simp[sameShape]at hss,o',BM hlt,hss,rfl⟩
  ·rcases C7.refl H m i x hix hf with h|⟨hd,x',h4,h5,_⟩
   ·exact .inl (by rw[A1 hne];exact h)
   ·exact .inr ⟨hd,x',by rw[A1 hne];exact h4,h5,rfl⟩
 have hown:∀ i,owned (H.set j o') fz i→owned H fz i:=fun i hoi=>by
  by_cases hne:i=j
  ·subst hne;exact hoj
  ·unfold owned at *;rw[A1 hne]at hoi;exact hoi
 refine⟨⟨h1,h2,h3,Nat.le_of_eq hsz.symm,fun k _ hk=>hb k ?_,fun _ h=>h,fun _ h=>.inl h,fun i b c ho' hm=>.inl ⟨i,c,hown i ho',hm⟩,hcomp⟩,⟨?_,?_,?_,?_,fun b h=>by rw[hsz];exact hi.lt b h,by simpa using hi.len⟩⟩
 ·rintro rfl
  exact hk j c hoj hmj
 ·intro id x hix
  by_cases hne:id=j
  ·subst hne
   rw[BM hlt]at hix;cases hix
   exact ho fun h=>Rep.mono hcell (fun _ h=>h) hcomp _ h
  ·rw[A1 hne]at hix
   exact ObI.mono hcell (fun _ h=>h) hcomp (fun n1 n2 b' c' hm _=>hb b' (hi.ne hoj hmj hix n1 n2 hm hne)) (hi.obj id x hix)
 ·exact fun i k b c b' c' hoi hok=>hi.sep i k b c b' c' (hown i hoi) (hown k hok)
 ·exact fun i b c hoi=>hi.off i b c (hown i hoi)
 ·intro i T t xs b' c' hio hf hmi
  by_cases hne:i=j
  ·subst hne
   rw[BM hlt]at hio;cases hio
   cases o<;>simp only[sameShape]at hss
   unfold owned at hoj;rw[hj]at hoj
   simp only at hoj
   rw[hoj]at hf;cases hf
  ·rw[A1 hne]at hio
   exact hi.froz i T t xs b' c' hio hf hmi
theorem Av.move(hi:HI w F m H fz){j b c slot:Nat}(hoj:owned H fz j)(hmj:m j=some (b,c))(hs:Au H fz slot=true){ob:Ob}(hal:alive ob){b' c':Nat}
  (hb':b'=b∨w.heap.size≤b')
  (h1:w'.os=w.os) (h2:w'.tape=w.tape) (h3:w'.output=w.output) (hsz:w.heap.size≤w'.heap.size) (hb:∀ k,k<w.heap.size→k≠b→w'.heap[k]? = w.heap[k]?)
  (ho:(∀ {a:AV} {v:Value},Rep w F m H a v→Rep w' F (upd m slot (some (b',c'))) ((H.set j .dead).set slot ob) a v)→ObI w' F (upd m slot (some (b',c'))) ((H.set j .dead).set slot ob) ob (some (b',c'))) :
  Av w F m H fz w' F (upd m slot (some (b',c'))) ((H.set j .dead).set slot ob) fz:=by
 obtain⟨hs1,hs2⟩:=BW hs
 obtain⟨oj,hj,hjf,hjd⟩:=CA hoj
 have hjs:j≠slot:=by rintro rfl;rw[hs1]at hj;cases hj;exact hjf rfl
 have hltj:=At hj
 have hlts:=At hs1
 have hgs:((H.set j .dead).set slot ob)[slot]? = some ob:=BM (by simpa using hlts)
 have hgj:((H.set j .dead).set slot ob)[j]? = some .dead:=by rw[A1 hjs,BM hltj]
 have hgo:∀ i,i≠j→i≠slot→((H.set j .dead).set slot ob)[i]? = H[i]? := fun i h4 h5=>by rw[A1 h5,A1 h4]
 have hbF:¬ F b:=hi.off j b c hoj hmj
 have hcell:∀ a:Addr,F a.block→w'.cell? a=w.cell? a:=fun a ha=>by
  have:a.block≠b:=by rintro e;exact hbF (e▸ha)
  simp[World.cell?,hb _ (hi.lt _ ha) this]
 have hcomp:C7 H ((H.set j .dead).set slot ob) m (upd m slot (some (b',c'))):=by
  intro i x hix hf
  have hne:i≠slot:=by rintro rfl;rw[hs1]at hix;cases hix;exact hf rfl
  by_cases hij:i=j
  ·subst hij;exact .inl hgj
  ·rcases C7.refl H m i x hix hf with h|⟨hd,x',h4,h5,_⟩
   ·exact .inl (by rw[hgo i hij hne];exact h)
   ·exact .inr ⟨hd,x',by rw[hgo i hij hne];exact h4,h5,BU hne⟩
 have hown:∀ i,i≠slot→owned ((H.set j .dead).set slot ob) fz i→owned H fz i∧i≠j:=fun i hne hoi=>by
  by_cases hij:i=j
  ·subst hij;unfold owned at hoi;rw[hgj]at hoi;exact hoi.elim
  ·unfold owned at *;rw[hgo i hij hne]at hoi;exact⟨hoi,hij⟩
 refine⟨⟨h1,h2,h3,hsz,fun k hk hn=>hb k hk ?_,fun _ h=>h,fun _ h=>.inl h,?_,hcomp⟩,⟨?_,?_,?_,?_,fun b h=>ArA (hi.lt b h) hsz,by simpa using hi.len⟩⟩
 ·rintro rfl;exact hn j c hoj hmj
 ·intro i b2 c2 ho' hm
  by_cases hne:i=slot
  ·subst hne;rw[Ar]at hm;cases hm
   rcases hb' with h|h
   ·exact .inl ⟨j,c,hoj,by rw[h];exact hmj⟩
   ·exact .inr h
  ·rw[BU hne]at hm;exact .inl ⟨i,c2,(hown i hne ho').1,hm⟩
 ·intro id x hix
  by_cases hne:id=slot
  ·subst hne
   rw[hgs]at hix;cases hix
   rw[Ar]
   exact ho fun h=>Rep.mono hcell (fun _ h=>h) hcomp _ h
  ·rw[BU hne]
   by_cases hij:id=j
   ·subst hij;rw[hgj]at hix;cases hix;trivial
   ·rw[hgo id hij hne]at hix
    exact ObI.mono hcell (fun _ h=>h) hcomp (fun n1 n2 b2 c2 hm hlt=>hb b2 hlt (hi.ne hoj hmj hix n1 n2 hm hij)) (hi.obj id x hix)
 ·intro i k b1 c1 b2 c2 hoi hok hik hmi hmk
  by_cases hi1:i=slot
  ·subst hi1
   have hk1:k≠i:=AqH hik
   rw[Ar]at hmi;cases hmi
   rw[BU hk1]at hmk
   obtain⟨hok,hkj⟩:=hown k hk1 hok
   rcases hb' with rfl|h
   ·exact(hi.sep k j b2 c2 b' c hok hoj hkj hmk hmj).symm
   ·have:=hi.Mk hok hmk;omega
  ·rw[BU hi1]at hmi
   obtain⟨hoi',hij⟩:=hown i hi1 hoi
   by_cases hk1:k=slot
   ·subst hk1
    rw[Ar]at hmk;cases hmk
    rcases hb' with rfl|h
    ·exact hi.sep i j b1 c1 b' c hoi' hoj hij hmi hmj
    ·have:=hi.Mk hoi' hmi;omega
   ·rw[BU hk1]at hmk
    exact hi.sep i k b1 c1 b2 c2 hoi' (hown k hk1 hok).1 hik hmi hmk
 ·intro i b1 c1 hoi hmi hF
  by_cases hi1:i=slot
  ·subst hi1;rw[Ar]at hmi;cases hmi
   rcases hb' with rfl|h
   ·exact hbF hF
   ·have:=hi.lt _ hF;omega
  ·rw[BU hi1]at hmi
   exact hi.off i b1 c1 (hown i hi1 hoi).1 hmi hF
 ·intro i T t xs b1 c1 hio hf hmi
  by_cases hi1:i=slot
  ·subst hi1;rw[hs2]at hf;cases hf
  ·rw[BU hi1]at hmi
   by_cases hij:i=j
   ·subst hij;rw[hgj]at hio;cases hio
   ·rw[hgo i hij hi1]at hio
    exact hi.froz i T t xs b1 c1 hio hf hmi
def Dx(F:Nat→Prop)(m:Mp)(H:List Ob)(ids:List Nat)(b:Nat):Prop:=
 F b∨∃ i,i∈ids∧∃ c T t xs,H[i]? = some (.arr T t xs)∧m i=some (b,c)
theorem Ct(ids:List Nat):∀ (fz:List Bool),(Al ids fz).length=fz.length:=by
 induction ids with
 |nil=>intro fz;rfl
 |cons a ids ih=>intro fz;rw[Al,ih,Aqb]
theorem A2(ids:List Nat):∀ (fz:List Bool) (i:Nat),(Al ids fz).getD i false=(fz.getD i false||(decide (i∈ids)&&decide (i<fz.length))):=by
 induction ids with
 |nil=>intro fz i;simp[Al]
 |cons a ids ih=>
  intro fz i
  rw[Al,ih,Aqb]
  simp only[ApP]
  by_cases hia:i=a
  ·subst hia
   by_cases hl:i<fz.length
   ·simp[hl]
   ·simp[hl]
  ·rw[AqU (AqH hia)]
   simp[hia]
theorem Av.freeze(hi:HI w F m H fz)(ids:List Nat):Av w F m H fz w (Dx F m H ids) m H (Al ids fz):=by
 have hown:∀ i,owned H (Al ids fz) i→owned H fz i∧(i∉ids∨∀ T t xs,H[i]?≠some (.arr T t xs)):=by
  intro i ho
  unfold owned at *
  cases hio:H[i]? with
  |none=>rw[hio]at ho;exact ho.elim
  |some o=>
   rw[hio]at ho
   cases o with
   |free=>exact ho.elim
   |dead=>exact ho.elim
   |box cs=>exact⟨trivial,.inr (by simp)⟩
   |map k v es=>exact⟨trivial,.inr (by simp)⟩
   |prs T tgt is=>exact⟨trivial,.inr (by simp)⟩
   |arr T t xs=>
    simp only at ho ⊢
    rw[A2]at ho
    simp only[Bool.or_eq_false_iff,Bool.and_eq_false_iff,AqQ]at ho
    refine⟨ho.1,.inl ?_⟩
    rcases ho.2 with h|h
    ·exact h
    ·exact absurd (ArA (At hio) (Nat.le_of_eq hi.len)) h
 have hsub:∀ b,F b→Dx F m H ids b:=fun b h=>.inl h
 have hownS:∀ i,(∃ T t xs,H[i]? = some (.arr T t xs))→owned H fz i∨fz.getD i false=true:=by
  rintro i ⟨T,t,xs,h⟩
  cases hx:fz.getD i false with
  |true=>exact .inr rfl
  |false=>exact .inl (by unfold owned;rw[h];exact hx)
 refine⟨⟨rfl,rfl,rfl,ApY _,fun _ _ _=>rfl,hsub,?_,fun i b c h1 h2=>.inl ⟨i,c,(hown i h1).1,h2⟩,C7.refl H m⟩,⟨?_,?_,?_,?_,?_,by rw[Ct];exact hi.len⟩⟩
 ·rintro b (h|⟨i,hi1,c,T,t,xs,h4,h5⟩)
  ·exact .inl h
  ·rcases hownS i ⟨T,t,xs,h4⟩with h|h
   ·exact .inr (.inl ⟨i,c,h,h5⟩)
   ·exact .inl (hi.froz i T t xs b c h4 h h5)
 ·exact fun id o ho=>ObI.mono (fun _ _=>rfl) hsub (C7.refl H m) (fun _ _ _ _ _ _=>rfl) (hi.obj id o ho)
 ·exact fun i j b c b' c' h1 h2=>hi.sep i j b c b' c' (hown i h1).1 (hown j h2).1
 ·rintro i b c h1 h2 (hF|⟨k,hk,c',T,t,xs,h4,h5⟩)
  ·exact hi.off i b c (hown i h1).1 h2 hF
  ·obtain⟨h6,h7⟩:=hown i h1
   have hki:k≠i:=by
    rintro rfl
    rcases h7 with h7|h7
    ·exact h7 hk
    ·exact h7 T t xs h4
   exact hi.ne h6 h2 h4 (by simp) (by simp) h5 hki rfl
 ·intro i T t xs b c hio hf hmi
  rw[A2]at hf
  simp only[Aq5,ApU,ApQ]at hf
  rcases hf with hf|⟨hf,_⟩
  ·exact .inl (hi.froz i T t xs b c hio hf hmi)
  ·exact .inr ⟨i,hf,c,T,t,xs,hio,hmi⟩
 ·rintro b (h|⟨i,_,c,T,t,xs,h4,h5⟩)
  ·exact hi.lt b h
  ·rcases hownS i ⟨T,t,xs,h4⟩with h|h
   ·exact hi.Mk h h5
   ·exact hi.lt b (hi.froz i T t xs b c h4 h h5)
end
end Go.Pev
end
section
namespace Go.Pev
open Go.RowKit
theorem J8(a:Addr)(n:Nat):(a.add n).block=a.block:=by unfold Addr.add;split<;>rfl
theorem add_add(a:Addr)(i j:Nat):(a.add i).add j=a.add (i+j):=by
 unfold Addr.add
 by_cases hi:i=0<;>by_cases hj:j=0<;>simp[hi,hj,ArQ]
theorem DE(b o n:Nat):(⟨b,o,none⟩:Addr).add n=⟨b,o+n,none⟩:=by unfold Addr.add;split<;>simp_all
theorem Ds{t t':Ty}{d:t.den}{x:t'.den}(h:cast d=some x):∃ e:t=t',e▸d=x:=by
 unfold cast at h
 split at h
 ·rename_i e;exact⟨e,by simpa using h⟩
 ·cases h
theorem EW{t t':Ty}{d:List t.den}{x:List t'.den}(h:YK d=some x):∃ e:t=t',e▸d=x:=by
 unfold YK at h
 split at h
 ·rename_i e;exact⟨e,by simpa using h⟩
 ·cases h
theorem Df{α:Type}{R:α→List Value→Prop}{k:Nat}(hk:∀ x cs,R x cs→cs.length=k):∀ {xs:List α} {cs:List Value} (n:Nat),rows R xs cs→rows R (xs.take n) (cs.take (n*k)):=by
 intro xs
 induction xs with
 |nil=>rintro cs n rfl;simp[rows]
 |cons x xs ih=>
  rintro cs n ⟨c1,c2,rfl,h1,h2⟩
  cases n with
  |zero=>simp[rows]
  |succ n=>
   have hl:=hk _ _ h1
   refine⟨c1,c2.take (n*k),?_,h1,ih n h2⟩
   rw[ArR,AqW,Aq4,AqJ (by omega)]
   congr 2
   omega
theorem HL{α:Type}{R:α→List Value→Prop}{k:Nat}(hk:∀ x cs,R x cs→cs.length=k):∀ {xs:List α} {cs:List Value} (n:Nat),rows R xs cs→rows R (xs.drop n) (cs.drop (n*k)):=by
 intro xs
 induction xs with
 |nil=>rintro cs n rfl;simp[rows]
 |cons x xs ih=>
  rintro cs n ⟨c1,c2,rfl,h1,h2⟩
  cases n with
  |zero=>simp only[AsD,Ara];exact⟨c1,c2,rfl,h1,h2⟩
  |succ n=>
   have hl:=hk _ _ h1
   have e:(c1++c2).drop ((n+1)*k)=c2.drop (n*k):=by
    rw[AqW,Aq4,Asg,Aqx (show c1.length≤n*k+k by omega),Ap9]
    congr 1;omega
   rw[e,List.drop_succ_cons]
   exact ih n h2
theorem ABY{α:Type}{R:α→List Value→Prop}{k:Nat}(hk:∀ x cs,R x cs→cs.length=k){xs:List α}{cs:List Value}(h:rows R xs cs){i:Nat}{x:α}(hx:xs[i]? = some x):
  R x ((cs.drop (i*k)).take k):=by
 have h1:=Df hk 1 (HL hk i h)
 rw[Aq4]at h1
 have h2:(xs.drop i).take 1=[x]:=by
  have hlt:i<xs.length:=by
   rcases AqV i xs.length with h'|h'
   ·exact h'
   ·rw[Apm h']at hx;cases hx
  rw[AqF hlt]
  rw[ApO hlt]at hx
  injection hx with hx
  simp[hx]
 rw[h2]at h1
 obtain⟨c1,c2,e,h3,rfl⟩:=h1
 rw[Aqa]at e
 rw[e];exact h3
theorem Jc{α:Type}{R:α→List Value→Prop}{xs ys:List α}{cs ds:List Value}(h:rows R xs cs)(h':rows R ys ds):rows R (xs++ys) (cs++ds):=by
 induction xs generalizing cs with
 |nil=>cases h;simpa using h'
 |cons x xs ih=>
  obtain⟨c1,c2,rfl,h1,h2⟩:=h
  exact⟨c1,c2++ds,by simp,h1,ih h2⟩
theorem AQe{α:Type}{R:α→List Value→Prop}{k:Nat}(hk:∀ x cs,R x cs→cs.length=k):∀ {xs:List α} {cs:List Value} {i:Nat} {y:α} {ds:List Value},rows R xs cs→i<xs.length→R y ds →
  rows R (xs.set i y) (cs.take (i*k)++ds++cs.drop (i*k+k)):=by
 intro xs
 induction xs with
 |nil=>intro cs i y ds _ hi;simp at hi
 |cons x xs ih=>
  rintro cs i y ds ⟨c1,c2,rfl,h1,h2⟩ hi hy
  have hl:=hk _ _ h1
  cases i with
  |zero=>
   simp only[List.set_cons_zero,Ara,List.take_zero,Ap9,Aqe]
   refine⟨ds,c2,?_,hy,h2⟩
   rw[Asg,Aqx (by omega),← hl,Arb];simp
  |succ i=>
   simp only[List.set_cons_succ]
   refine⟨c1,_,?_,h1,ih h2 (by simpa using hi) hy⟩
   rw[AqW,Aq4,ArR,AqJ (show c1.length≤i*k+k by omega),Asg,Aqx (show c1.length≤i*k+k+k by omega)]
   simp only[Ap1,Ap9]
   rw[show i*k+k-c1.length=i*k from by omega,show i*k+k+k-c1.length=i*k+k from by omega]
section
variable {w:World} {F:Nat→Prop} {m:Mp} {H:List Ob} {fz:List Bool}
theorem Aev{ids ids':List Nat}(h:∀ i∈ids,i∈ids'){b:Nat}(hb:Dx F m H ids b):Dx F m H ids' b:=by
 rcases hb with hb|⟨i,hi,r⟩
 ·exact .inl hb
 ·exact .inr ⟨i,h i hi,r⟩
theorem Dat.frz{t:Ty}{d:t.den}{cs:List Value}{ids:List Nat}(h:Dat w F t d cs):Dat w (Dx F m H ids) t d cs:=h.mono (fun _ _=>rfl) (fun _=>.inl) t
theorem Dat.Ajw{t:Ty}{d:t.den}{cs:List Value}{ids ids':List Nat}(hh:∀ i∈ids,i∈ids')(h:Dat w (Dx F m H ids) t d cs):Dat w (Dx F m H ids') t d cs:=h.mono (fun _ _=>rfl) (fun _=>Aev hh) t
theorem Cj{vs:Array Value}{row:List Value}(h:vs.toList.take row.length=row){j:Nat}{u:Value}(hu:row[j]? = some u):vs[j]? = some u:=by
 rw[← h,AqK]at hu
 split at hu
 ·simpa using hu
 ·cases hu
theorem AZL(hi:HI w F m H fz){id:Nat}{T:TypeId}{e:Ty}{xs:List e.den}(ho:H[id]? = some (.arr T e xs)){v:Value}(hr:Bh (some (.arr T e xs)) (m id) v):
  Dat w (Dx F m H [id]) (.slice e) xs [v]:=by
 have h:=hi.obj id _ ho
 obtain⟨_,h⟩:=h
 cases hm:m id with
 |none=>
  rw[hm]at h hr
  obtain⟨a,rfl⟩:=hr
  simp only at h;subst h
  exact⟨a,0,rfl,ApY _,fun h=>absurd rfl h⟩
 |some p=>
  obtain⟨b,cap⟩:=p
  rw[hm]at h hr
  obtain⟨vs,row,e1,e2,e3,e4,e5,e6⟩:=h
  simp only[Bh]at hr;subst hr
  refine⟨_,cap,rfl,e2,fun _=>⟨_,row,rfl,.inr ⟨id,by simp,cap,T,e,xs,ho,hm⟩,BN (fun x _ cs hx=>hx.frz) e5,fun j u hu => ?_⟩⟩
  rw[DE]
  simp only[World.cell?,e1,Aqe]
  exact Cj e6 hu
theorem AZK(hi:HI w F m H fz){id:Nat}{T:TypeId}{e:Ty}{xs:List e.den}(ho:H[id]? = some (.arr T e xs)){off n:Nat}{v:Value}(hr:Gz (some (.arr T e xs)) (m id) off n v):
  Dat w (Dx F m H [id]) (.slice e) (F7 off n xs) [v]:=by
 have h:=hi.obj id _ ho
 obtain⟨_,h⟩:=h
 obtain⟨hle,hr⟩:=hr
 have hlen:(F7 off n xs).length=n:=by unfold F7;rw[Api,AqS];omega
 cases hm:m id with
 |none=>
  rw[hm]at h hr
  obtain⟨a,rfl⟩:=hr
  simp only at h;subst h
  have hn:n=0:=by have:=hle;simp at this;exact this.2
  refine⟨a,0,by rw[hlen],by rw[hlen];omega,fun h=>absurd ?_ h⟩
  simp[F7]
 |some p=>
  obtain⟨b,cap⟩:=p
  rw[hm]at h hr
  obtain⟨vs,row,e1,e2,e3,e4,e5,e6⟩:=h
  obtain⟨a,rfl,ha⟩:=hr
  have hk:=fun(x:e.den) cs (h:Dat w F e x cs)=>Dat.length e h
  refine⟨a,cap-off,by rw[hlen],by rw[hlen];omega,fun hne => ?_⟩
  have hn:0<n:=by
   rcases AqL n with h0|h0
   ·exact absurd (Apq (hlen.trans h0)) hne
   ·exact h0
  refine⟨_,(row.drop (off*e.size)).take (n*e.size),ha (by omega),.inr ⟨id,by simp,cap,T,e,xs,ho,hm⟩,BN (fun x _ cs hx=>hx.frz) (Df hk n (HL hk off e5)),fun j u hu => ?_⟩
  rw[DE]
  simp only[World.cell?,e1]
  rw[AqK]at hu
  split at hu
  ·rw[AqR]at hu
   exact Cj e6 hu
  ·cases hu
theorem AJp(hi:HI w F m H fz){t:Ty}{v:AV}{x:t.den}{fr:List Nat}(h:Dz H t v=some (x,fr))(ht:t.isAgg=false){u:Value}(hr:Rep w F m H v u):Dat w (Dx F m H fr) t x [u]:=by
 unfold Dz at h
 split at h
 ·rename_i t' d
  simp only[Ape,Apj]at h
  obtain⟨y,h1,rfl,rfl⟩:=h
  obtain⟨e,h2⟩:=Ds h1
  subst e;simp only at h2;subst h2
  unfold Rep Bj at hr
  rw[ht]at hr
  exact Dat.frz (by simpa using hr)
 ·rename_i e' d
  simp only[Ape,Apj]at h
  obtain⟨y,h1,rfl,rfl⟩:=h
  obtain⟨e,h2⟩:=Ds h1
  subst e;simp only at h2;subst h2
  unfold Rep at hr
  exact Dat.frz hr.1
 ·split at h
  ·simp only[ApN,Apj]at h
   obtain⟨rfl,rfl⟩:=h
   unfold Rep at hr;subst hr
   exact⟨none,0,rfl,ApY _,fun h=>absurd rfl h⟩
  ·simp only[ApN,Apj]at h
   obtain⟨_,rfl⟩:=h
   unfold Rep at hr;subst hr
   rfl
  ·cases h
 ·rename_i id
  split at h
  ·rename_i T e xs ho
   simp only[Ape,Apj]at h
   obtain⟨y,h1,rfl,rfl⟩:=h
   obtain⟨e',h2⟩:=Ds h1
   subst e';simp only at h2;subst h2
   unfold Rep at hr
   rw[ho]at hr
   exact AZL hi ho hr
  ·cases h
 ·rename_i id off n
  split at h
  ·rename_i T e xs ho
   simp only[Ape,Apj]at h
   obtain⟨y,h1,rfl,rfl⟩:=h
   obtain⟨e',h2⟩:=Ds h1
   subst e';simp only at h2;subst h2
   unfold Rep at hr
   rw[ho]at hr
   exact AZK hi ho hr
  ·cases h
 ·cases h
theorem Aml{α:Type}{one:List AV→Option (α×List Nat×List AV)}{R:List Nat→α→List Value→Prop}
  (hR:∀ fr fr' x cs,(∀ i∈fr,i∈fr')→R fr x cs→R fr' x cs)
  (h1:∀ cs x fr rest us,one cs=some (x,fr,rest)→Ag w F m H cs us→∃ us1 us2,us=us1++us2∧R fr x us1∧Ag w F m H rest us2) :
  ∀ (n:Nat) {cs:List AV} {xs:List α} {fr:List Nat} {rest:List AV} {us:List Value},RT one n cs=some (xs,fr,rest)→Ag w F m H cs us →
   ∃ us1 us2,us=us1++us2∧xs.length=n∧rows (R fr) xs us1∧Ag w F m H rest us2:=by
 intro n
 induction n with
 |zero=>
  intro cs xs fr rest us h hr
  simp only[RT,ApN,Apj]at h
  obtain⟨rfl,rfl,rfl⟩:=h
  exact⟨[],us,rfl,rfl,rfl,hr⟩
 |succ n ih=>
  intro cs xs fr rest us h hr
  simp only[RT]at h
  split at h
  ·cases h
  ·rename_i x f cs1 ho
   split at h
   ·cases h
   ·rename_i ys g cs2 hi
    simp only[ApN,Apj]at h
    obtain⟨rfl,rfl,rfl⟩:=h
    obtain⟨u1,u2,rfl,r1,r2⟩:=h1 _ _ _ _ _ ho hr
    obtain⟨u3,u4,rfl,hl,r3,r4⟩:=ih hi r2
    exact⟨u1++u3,u4,by simp,by simp[hl],⟨u1,u3,rfl,hR _ _ _ _ (fun i hi=>by simp[hi]) r1,BN (fun x _ cs hx=>hR _ _ _ _ (fun i hi=>by simp[hi]) hx) r3⟩,r4⟩
theorem ADc(hi:HI w F m H fz):∀ (t:Ty) {cs:List AV} {x:t.den} {fr:List Nat} {rest:List AV} {us:List Value},As H t cs=some (x,fr,rest)→Ag w F m H cs us →
  ∃ us1 us2,us=us1++us2∧Dat w (Dx F m H fr) t x us1∧Ag w F m H rest us2:=by
 have cell:∀ (t:Ty),t.isAgg=false→∀ {c:AV} {cs:List AV} {x:t.den} {fr:List Nat} {rest:List AV} {us:List Value} {p:Option (t.den×List Nat)},Dz H t c=p →
   p=some (x,fr)→cs=rest→Ag w F m H (c::cs) us →
   ∃ us1 us2,us=us1++us2∧Dat w (Dx F m H fr) t x us1∧Ag w F m H rest us2:=by
  rintro t ht c cs x fr rest us p hy rfl rfl hr
  unfold Ag at hr
  obtain⟨v,vs',rfl,h1,h2⟩:=hr
  exact⟨[v],vs',rfl,AJp hi hy ht h1,h2⟩
 intro t
 induction t with
 |unit=>
  intro cs x fr rest us h hr
  simp only[As,ApN,Apj]at h
  obtain⟨_,rfl,rfl⟩:=h
  exact⟨[],us,rfl,rfl,hr⟩
 |bool=>
  intro cs x fr rest us h hr
  cases cs with
  |nil=>simp[As]at h
  |cons c cs=>
   unfold As at h
   split at h
   ·cases h
   ·rename_i y f hy
    simp only[ApN,Apj]at h
    obtain⟨h1,h2,h3⟩:=h
    exact cell .bool rfl hy (by rw[h1,h2]) h3 hr
 |int k=>
  intro cs x fr rest us h hr
  cases cs with
  |nil=>simp[As]at h
  |cons c cs=>
   unfold As at h
   split at h
   ·cases h
   ·rename_i y f hy
    simp only[ApN,Apj]at h
    obtain⟨h1,h2,h3⟩:=h
    exact cell (.int k) rfl hy (by rw[h1,h2]) h3 hr
 |slice e _=>
  intro cs x fr rest us h hr
  cases cs with
  |nil=>simp[As]at h
  |cons c cs=>
   unfold As at h
   split at h
   ·cases h
   ·rename_i y f hy
    simp only[ApN,Apj]at h
    obtain⟨h1,h2,h3⟩:=h
    exact cell (.slice e) rfl hy (by rw[h1,h2]) h3 hr
 |nul e=>
  intro cs x fr rest us h hr
  cases cs with
  |nil=>simp[As]at h
  |cons c cs=>
   unfold As at h
   split at h
   ·cases h
   ·rename_i y f hy
    simp only[ApN,Apj]at h
    obtain⟨_,h2,h3⟩:=h
    exact cell (.nul e) rfl hy (by rw[h2]) h3 hr
 |prod a b iha ihb=>
  intro cs x fr rest us h hr
  simp only[As]at h
  split at h
  ·cases h
  ·rename_i y f cs1 hy
   split at h
   ·cases h
   ·rename_i z g cs2 hz
    simp only[ApN,Apj]at h
    obtain⟨rfl,rfl,rfl⟩:=h
    obtain⟨u1,u2,rfl,r1,r2⟩:=iha hy hr
    obtain⟨u3,u4,rfl,r3,r4⟩:=ihb hz r2
    exact⟨u1++u3,u4,by simp,⟨u1,u3,rfl,r1.Ajw (fun i hi=>by simp[hi]),r3.Ajw (fun i hi=>by simp[hi])⟩,r4⟩
 |arr n e ih=>
  intro cs x fr rest us h hr
  simp only[As]at h
  obtain⟨u1,u2,e1,e2,e3,e4⟩:=Aml (R:=fun fr=>Dat w (Dx F m H fr) e) (fun fr fr' x cs h1 h2=>h2.Ajw h1) (fun cs x fr rest us h1 h2=>ih h1 h2) n h hr
  exact⟨u1,u2,e1,⟨e2,e3⟩,e4⟩
theorem FD(hi:HI w F m H fz){t:Ty}{v:AV}{x:t.den}{fr:List Nat}(h:FE H t v=some (x,fr)){u:Value}(hr:Rep w F m H v u):Bj w (Dx F m H fr) t x u:=by
 unfold FE at h
 split at h
 ·rename_i ht
  unfold Bj
  rw[ApZ ht]
  unfold asAgg at h
  split at h
  ·rename_i t' d
   simp only[Ape,Apj]at h
   obtain⟨y,h1,rfl,rfl⟩:=h
   obtain⟨e,h2⟩:=Ds h1
   subst e;simp only at h2;subst h2
   unfold Rep Bj at hr
   rw[ApZ ht]at hr
   obtain⟨vs,e1,e2⟩:=hr
   exact⟨vs,e1,e2.frz⟩
  ·rename_i cs
   split at h
   ·rename_i y f hy
    simp only[ApN,Apj]at h
    obtain⟨rfl,rfl⟩:=h
    unfold Rep at hr
    obtain⟨vs,rfl,hr,_⟩:=hr
    obtain⟨u1,u2,e1,e2,e3⟩:=ADc hi t hy hr
    unfold Ag at e3;subst e3
    rw[Aqa]at e1
    exact⟨vs,rfl,by rw[e1];exact e2⟩
   ·cases h
  ·cases h
 ·rename_i ht
  unfold Bj
  rw[ApV (by simp[ht])]
  exact AJp hi h ht hr
theorem ATI{n:Nat}(e:Ty)(d:List e.den)(h:d.length=n):BH (.arr n e) d=d.flatMap (BH e):=by
 have gen:∀ (xs:List e.den) (f:Nat→e.den),(∀ i,i<xs.length→f i=xs.getD i e.zero)→((List.range xs.length).flatMap fun i=>BH e (f i))=xs.flatMap (BH e):=by
  intro xs
  induction xs with
  |nil=>intro f _;rfl
  |cons x xs ih=>
   intro f hf
   rw[ApW,List.range_succ_eq_map,Ap7,Ap7,List.flatMap_map]
   have h0:=hf 0 (by simp)
   simp only[List.getD_cons_zero]at h0
   rw[h0]
   congr 1
   exact ih (fun i=>f (i+1)) fun i hi=>by
    have:=hf (i+1) (by simp;exact hi)
    simpa using this
 subst h
 exact gen d (fun i=>AY d i e.zero) fun i _=>rfl
theorem Hs:∀ (t:Ty) {d:t.den} {cs:List Value},Dat w F t d cs→Ag w F m H (BH t d) cs:=by
 have one:∀ (t:Ty) (d:t.den) (u:Value),t.isAgg=false→Dat w F t d [u]→Ag w F m H [.data t d] [u]:=by
  intro t d u ht h
  unfold Ag
  refine⟨u,[],rfl,?_,?_⟩
  ·unfold Rep Bj;rw[ht];simpa using h
  ·unfold Ag;rfl
 intro t
 induction t with
 |unit=>rintro d cs rfl;simp only[BH];unfold Ag;rfl
 |bool=>rintro d cs h;obtain rfl:=h;exact one .bool d _ rfl rfl
 |int k=>rintro d cs h;obtain rfl:=h;exact one (.int k) d _ rfl rfl
 |slice e _=>rintro d cs h;obtain⟨a,cap,rfl,h1,h2⟩:=h;exact one (.slice e) d _ rfl ⟨a,cap,rfl,h1,h2⟩
 |nul e=>rintro d cs h;obtain rfl:=h;simp only[BH];unfold Ag;exact⟨_,[],rfl,by unfold Rep;rfl,by unfold Ag;rfl⟩
 |prod a b iha ihb=>
  rintro d cs ⟨c1,c2,rfl,h1,h2⟩
  exact Gn (iha h1) (ihb h2)
 |arr n e ih=>
  rintro d cs ⟨hlen,h⟩
  rw[ATI e d hlen]
  have key:∀ (xs:List e.den) (cs:List Value),rows (Dat w F e) xs cs→Ag w F m H (xs.flatMap (BH e)) cs:=by
   intro xs
   induction xs with
   |nil=>rintro cs rfl;simp only[Ash];unfold Ag;rfl
   |cons x xs ih'=>
    rintro cs ⟨c1,c2,rfl,h1,h2⟩
    rw[Ap7]
    exact Gn (ih h1) (ih' _ h2)
  exact key d cs h
theorem AFo{v:AV}{u:Value}(hr:Rep w F m H v u):Ag w F m H [v] [u]:=by
 unfold Ag
 exact⟨u,[],rfl,hr,by unfold Ag;rfl⟩
theorem NJ:Ag w F m H [] []:=by unfold Ag;rfl
theorem HD{u:Value}(h:u.oneCell'=true):u.cells.toList=[u]:=by
 cases u<;>first|rfl|(simp[Value.oneCell']at h)
def Aat:AV→Prop
 |.junk=>False
 |.tup _=>False
 |.agg _=>False
 |.data t _=>t.isAgg=false
 |_=>True
theorem ACz{v:AV}{u:Value}(hr:Rep w F m H v u)(hv:Aat v):u.oneCell'=true:=by
 cases v with
 |junk=>exact hv.elim
 |tup vs=>exact hv.elim
 |agg cs=>exact hv.elim
 |data t d=>
  unfold Aat at hv
  unfold Rep Bj at hr
  rw[hv]at hr
  exact Dat.IV t (by simpa using hr) u (by simp)
 |nils e=>unfold Rep at hr;subst hr;rfl
 |clip t xs=>unfold Rep at hr;obtain⟨_,a,rfl⟩:=hr;rfl
 |own id=>
  unfold Rep at hr
  cases ho:H[id]? with
  |none=>rw[ho]at hr;exact hr.elim
  |some o=>rw[ho]at hr;exact hr.one
 |win id off n=>
  unfold Rep at hr
  cases ho:H[id]? with
  |none=>rw[ho]at hr;exact hr.elim
  |some o=>rw[ho]at hr;exact hr.one
 |ptr id off=>
  unfold Rep at hr
  cases ho:H[id]? with
  |none=>rw[ho]at hr;exact hr.elim
  |some o=>rw[ho]at hr;exact hr.one
 |eptr id i sub=>
  unfold Rep at hr
  cases ho:H[id]? with
  |none=>rw[ho]at hr;exact hr.elim
  |some o=>rw[ho]at hr;exact hr.one
 |dptr cs=>unfold Rep at hr;obtain⟨ad,us,rfl,_⟩:=hr;rfl
 |clo f cs=>unfold Rep at hr;obtain⟨us,rfl,_⟩:=hr;rfl
 |bnd f cs=>unfold Rep at hr;obtain⟨us,rfl,_⟩:=hr;rfl
 |str xs=>unfold Rep at hr;obtain⟨us,rfl,_⟩:=hr;rfl
 |mp id=>
  unfold Rep at hr
  cases ho:H[id]? with
  |none=>rw[ho]at hr;exact hr.elim
  |some o=>rw[ho]at hr;exact hr.one
theorem cells?_ok{v:AV}{cs:List AV}(h:cells? v=some cs){u:Value}(hr:Rep w F m H v u):Ag w F m H cs u.cells.toList:=by
 have agg:∀ (t:Ty) (d:t.den),t.isAgg=true→Rep w F m H (.data t d) u→Ag w F m H (BH t d) u.cells.toList:=by
  intro t d ht hr
  unfold Rep Bj at hr
  rw[ApZ ht]at hr
  obtain⟨vs,rfl,hd⟩:=hr
  exact Hs t hd
 have one:Aat v→cs=[v]→Ag w F m H cs u.cells.toList:=by
  rintro hv rfl
  rw[HD (ACz hr hv)]
  exact AFo hr
 cases v with
 |junk=>simp[cells?]at h
 |tup vs=>simp[cells?]at h
 |agg cs'=>
  simp only[cells?,ApN]at h;subst h
  unfold Rep at hr
  obtain⟨vs,rfl,hr',_⟩:=hr
  exact hr'
 |data t d=>
  cases t with
  |unit=>
   simp only[cells?,ApN]at h;subst h
   exact agg .unit d rfl hr
  |prod a b=>simp only[cells?,ApN]at h;subst h;exact agg _ d rfl hr
  |arr n e=>simp only[cells?,ApN]at h;subst h;exact agg _ d rfl hr
  |bool=>exact one rfl (by simpa [cells?]using h.symm)
  |int k=>exact one rfl (by simpa [cells?]using h.symm)
  |slice e=>exact one rfl (by simpa [cells?]using h.symm)
  |nul e=>exact one rfl (by simpa [cells?]using h.symm)
 |nils e=>exact one trivial (by simpa [cells?]using h.symm)
 |clip t xs=>exact one trivial (by simpa [cells?]using h.symm)
 |own id=>exact one trivial (by simpa [cells?]using h.symm)
 |win id off n=>exact one trivial (by simpa [cells?]using h.symm)
 |ptr id off=>exact one trivial (by simpa [cells?]using h.symm)
 |eptr id i sub=>exact one trivial (by simpa [cells?]using h.symm)
 |dptr cs'=>exact one trivial (by simpa [cells?]using h.symm)
 |clo f cs'=>exact one trivial (by simpa [cells?]using h.symm)
 |bnd f cs'=>exact one trivial (by simpa [cells?]using h.symm)
 |str xs=>exact one trivial (by simpa [cells?]using h.symm)
 |mp id=>exact one trivial (by simpa [cells?]using h.symm)
theorem cells?_one{v:AV}{cs:List AV}(h:cells? v=some cs){u:Value}(hr:Rep w F m H v u):∀ x∈u.cells.toList,x.oneCell'=true:=by
 have one:Aat v→∀ x∈u.cells.toList,x.oneCell'=true:=by
  intro hv x hx
  have h1:=ACz hr hv
  rw[HD h1]at hx
  simp at hx;subst hx;exact h1
 have agg:∀ (t:Ty) (d:t.den),t.isAgg=true→Rep w F m H (.data t d) u→∀ x∈u.cells.toList,x.oneCell'=true:=by
  intro t d ht hr
  unfold Rep Bj at hr
  rw[ApZ ht]at hr
  obtain⟨vs,rfl,hd⟩:=hr
  exact Dat.IV t hd
 cases v with
 |junk=>simp[cells?]at h
 |tup vs=>simp[cells?]at h
 |agg cs'=>
  unfold Rep at hr
  obtain⟨vs,rfl,_,h1⟩:=hr
  exact h1
 |data t d=>
  cases t with
  |unit=>exact agg .unit d rfl hr
  |prod a b=>exact agg _ d rfl hr
  |arr n e=>exact agg _ d rfl hr
  |bool=>exact one rfl
  |int k=>exact one rfl
  |slice e=>exact one rfl
  |nul e=>exact one rfl
 |nils e=>exact one trivial
 |clip t xs=>exact one trivial
 |own id=>exact one trivial
 |win id off n=>exact one trivial
 |ptr id off=>exact one trivial
 |eptr id i sub=>exact one trivial
 |dptr cs'=>exact one trivial
 |clo f cs'=>exact one trivial
 |bnd f cs'=>exact one trivial
 |str xs=>exact one trivial
 |mp id=>exact one trivial
theorem PB:∀ (cs:List AV) (vs:List Value),Bp cs vs=true→∀ x∈vs,x.oneCell'=true:=by
 intro cs
 induction cs with
 |nil=>
  intro vs h x hx
  cases vs with
  |nil=>cases hx
  |cons v vs=>simp[Bp]at h
 |cons c cs ih=>
  intro vs h x hx
  cases vs with
  |nil=>cases hx
  |cons v vs=>
   simp only[Bp,ApU]at h
   rcases ApT.1 hx with rfl|hx
   ·have h:=h.1
    unfold DJ at h
    split at h<;>first|rfl|cases h
   ·exact ih vs h.2 x hx
theorem I8{cs new out:List AV}{off:Nat}(h:DT cs new off=some out){us vs:List Value}(h1:Ag w F m H cs us)(h2:Ag w F m H new vs):
  off+new.length≤cs.length∧Ag w F m H out (us.take off++vs++us.drop (off+new.length)):=by
 unfold DT at h
 split at h
 ·rename_i hle
  simp only[ApN]at h;subst h
  exact⟨hle,Gn (Gn (OG h1 off) h2) (Em h1 _)⟩
 ·cases h
theorem AZQ(v:Value):Rep w F m H (AN1 v) v:=by
 unfold AN1
 split
 ·unfold Rep Bj;exact rfl
 ·unfold Rep Bj;exact rfl
 ·unfold Rep;rfl
 ·unfold Rep;exact⟨_,rfl,rfl⟩
 ·unfold Rep;trivial
theorem ADm{tmps:List AV}{a:Act}(h:∀ t,Rep w F m H (tmps.getD t .junk) (a.tmps.getD t undef))(x:Operand):Rep w F m H (BL tmps x) (a.eval x):=by
 cases x with
 |tmp t=>exact h t
 |const v=>exact AZQ v
 |func f=>unfold BL Rep;exact⟨#[],rfl,NJ⟩
 |global g=>unfold BL Rep;trivial
theorem KJ:∀ (cs:List AV) (vs:List Value),Bp cs vs=true→Ag w F m H cs vs:=by
 intro cs
 induction cs with
 |nil=>intro vs h;cases vs with
  |nil=>exact NJ
  |cons v vs=>simp[Bp]at h
 |cons c cs ih=>
  intro vs h
  cases vs with
  |nil=>simp[Bp]at h
  |cons v vs=>
   simp only[Bp,ApU]at h
   unfold Ag
   refine⟨v,vs,rfl,?_,ih vs h.2⟩
   have h:=h.1
   unfold DJ at h
   split at h
   ·simp only[ArE]at h;subst h;unfold Rep Bj;exact rfl
   ·simp only[ApU,ApQ,ArE]at h
    obtain⟨rfl,rfl⟩:=h
    unfold Rep Bj;exact rfl
   ·unfold Rep;rfl
   ·cases h
end
end Go.Pev
end
section
namespace Go.Pev
open Go.RowKit
section
variable {P:Program} {w:World}
theorem run_typeInfo{T:TypeId}{i:TypeInfo}(h:P.info? T=some i):(typeInfo T).run P w = .ok i w:=by simp[typeInfo,h]
theorem run_sizeOf{T:TypeId}{i:TypeInfo}(h:P.info? T=some i):(sizeOf T).run P w = .ok i.size w:=by simp[sizeOf,run_typeInfo h]
theorem BK{T:TypeId}{n:Nat}(h:BI P T=some n):∃ i,P.info? T=some i∧i.size=n:=by
 unfold BI at h
 simpa [Ape]using h
theorem CQ{T:TypeId}{b:Bool}(h:D5 P T=some b):(isAgg T).run P w = .ok b w:=by
 unfold D5 at h
 split at h
 ·rename_i hu;simp only[ApN]at h;subst h;simp[isAgg,run_underlying hu]
 ·rename_i hu;simp only[ApN]at h;subst h;simp[isAgg,run_underlying hu]
 ·rename_i d h1 h2 hu
  simp only[ApN]at h;subst h
  simp only[isAgg,Sem.run_bind,run_underlying hu,Result.andThen_ok]
  rfl
 ·cases h
theorem DP{F:Nat→Prop}{m:Mp}{H:List Ob}{T:TypeId}{n:Nat}{ag:Bool}(hs:BI P T=some n)(ha:D5 P T=some ag){cs:List AV}{us:List Value}{v:AV}{ad:Addr}
  (hl:loadCells ag n cs=some v) (hr:Ag w F m H cs us) (h1:∀ u∈us,u.oneCell'=true) (hc:∀ j u,us[j]? = some u→w.cell? (ad.add j)=some u) :
  ∃ u,(loadVar T ad).run P w = .ok u w∧Rep w F m H v u:=by
 obtain⟨i,hi,rfl⟩:=BK hs
 unfold loadCells at hl
 cases ag with
 |true=>
  simp only at hl
  split at hl
  ·rename_i hle
   simp only[ApN]at hl;subst hl
   have hlen:=Aq hr
   have hl2:(us.take i.size).length=i.size:=by rw[Api];omega
   refine⟨.agg (us.take i.size).toArray,?_,?_⟩
   ·have:=run_loadCells_list (P:=P) w ad (us.take i.size) (fun j u hu=>by
     rw[AqK]at hu
     split at hu
     ·exact hc j u hu
     ·cases hu)
    rw[hl2]at this
    simp[loadVar,CQ ha,run_sizeOf hi,this]
   ·unfold Rep
    exact⟨_,rfl,by simpa using OG hr i.size,fun u hu=>h1 u (by simpa using Arq (by simpa using hu))⟩
  ·cases hl
 |false=>
  simp only at hl
  cases cs with
  |nil=>simp at hl
  |cons c cs=>
   simp only[List.head?_cons,ApN]at hl;subst hl
   unfold Ag at hr
   obtain⟨u,us',rfl,h3,_⟩:=hr
   refine⟨u,?_,h3⟩
   have:=hc 0 u rfl
   have h0:ad.add 0=ad:=by simp[Addr.add]
   rw[h0]at this
   simp[loadVar,CQ ha,this]
theorem D9{T T':TypeId}{n:Nat}(hs:BI P T=some n){b off:Nat}{cur:Array Value}(hb:w.heap[b]? = some (.cells cur T' (0,0))){u:Value}(hu:u.cells.size=n)
  (h1:∀ x∈u.cells.toList,x.oneCell'=true) (hfit:off+n≤cur.size) :
  (storeVar T ⟨b,off,none⟩ u).run P w = .ok () (w.setRow b (cur.toList.take off++u.cells.toList++cur.toList.drop (off+n)).toArray):=by
 obtain⟨i,hi,rfl⟩:=BK hs
 have:=run_storeCells_at P b off T' u.cells.toList 0 cur w hb (by simp[hu];omega) h1
 simp only[Aqp,Apl]at this
 rw[hu]at this
 simp[storeVar,run_sizeOf hi,hu,this]
theorem B9{T:TypeId}{t:Ty}{cs:List AV}(h:zeroAt P T=some (t,cs)):AU4 P T=some t∧cs=zeroCells t∧∃ i z,P.info? T=some i∧i.zero=some z∧Bp cs z.cells.toList=true∧i.size=t.size∧t.isAgg=ADU z:=by
 unfold zeroAt at h
 split at h
 ·rename_i t' i ht hi
  split at h
  ·rename_i z hz
   split at h
   ·rename_i hok
    simp only[ApN,Apj]at h
    obtain⟨rfl,rfl⟩:=h
    simp only[ApU,ArE]at hok
    exact⟨ht,rfl,i,z,hi,hz,hok.1.1,hok.1.2,hok.2⟩
   ·cases h
  ·cases h
 ·cases h
theorem Bn{T:TypeId}{i:TypeInfo}{z:Value}(h:P.info? T=some i)(hz:i.zero=some z):(zeroValue T).run P w = .ok z w:=by simp[zeroValue,run_typeInfo h,hz]
theorem B8{F:Nat→Prop}:∀ (t:Ty) (vs:List Value),Bp (zeroCells t) vs=true→Dat w F t t.zero vs:=by
 have app:∀ (asz bs:List AV) (vs:List Value),Bp (asz++bs) vs=true→∃ v1 v2,vs=v1++v2∧Bp asz v1=true∧Bp bs v2=true:=by
  intro asz
  induction asz with
  |nil=>intro bs vs h;exact⟨[],vs,rfl,rfl,h⟩
  |cons a asz ih=>
   intro bs vs h
   cases vs with
   |nil=>simp[Bp]at h
   |cons v vs=>
    simp only[Aps,Bp,ApU]at h
    obtain⟨v1,v2,rfl,h1,h2⟩:=ih bs vs h.2
    exact⟨v::v1,v2,rfl,by simp[Bp,h.1,h1],h2⟩
 have one:∀ (a:AV) (vs:List Value),Bp [a] vs=true→∃ v,vs=[v]∧DJ a v=true:=by
  intro a vs h
  cases vs with
  |nil=>simp[Bp]at h
  |cons v vs=>
   simp only[Bp,ApU]at h
   cases vs with
   |nil=>exact⟨v,rfl,h.1⟩
   |cons x xs=>simp[Bp]at h
 intro t
 induction t with
 |unit=>intro vs h;cases vs with
  |nil=>exact rfl
  |cons v vs=>simp[Bp,zeroCells]at h
 |bool=>
  intro vs h
  obtain⟨v,hv,h'⟩:=one (.data .bool false) _ h
  subst hv;clear h;have h:=h'
  unfold DJ at h
  split at h
  ·rename_i h1;simp only[AV.data.injEq]at h1;simp only[ArE]at h;subst h
   obtain⟨_,h1⟩:=h1
   exact Aqy (fun b=>[Value.bool b]) (eq_of_heq h1).symm
  ·rename_i h1;simp at h1
  ·rename_i h1;simp at h1
  ·cases h
 |int k=>
  intro vs h
  obtain⟨v,hv,h'⟩:=one (.data (.int k) (0:Int)) _ h
  subst hv;clear h;have h:=h'
  unfold DJ at h
  split at h
  ·rename_i h1;simp at h1
  ·rename_i h1
   simp only[AV.data.injEq,Ty.int.injEq]at h1
   simp only[ApU,ApQ,ArE]at h
   obtain⟨rfl,h1⟩:=h1
   obtain⟨rfl,rfl⟩:=h
   exact Aqy (fun n=>[Value.int k n]) (eq_of_heq h1).symm
  ·rename_i h1;simp at h1
  ·cases h
 |slice e _=>
  intro vs h
  obtain⟨v,hv,h'⟩:=one (.nils e) _ h
  subst hv;clear h;have h:=h'
  unfold DJ at h
  split at h
  ·rename_i h1;simp at h1
  ·rename_i h1;simp at h1
  ·exact⟨none,0,rfl,ApY _,fun h=>absurd rfl h⟩
  ·cases h
 |nul e=>
  intro vs h
  obtain⟨v,hv,h'⟩:=one (.nils e) _ h
  subst hv;clear h;have h:=h'
  unfold DJ at h
  split at h
  ·rename_i h1;simp at h1
  ·rename_i h1;simp at h1
  ·rfl
  ·cases h
 |prod a b iha ihb=>
  intro vs h
  obtain⟨v1,v2,rfl,h1,h2⟩:=app _ _ _ h
  exact⟨v1,v2,rfl,iha _ h1,ihb _ h2⟩
 |arr n e ih=>
  intro vs h
  refine⟨by simp[Ty.zero],?_⟩
  simp only[zeroCells]at h
  have key:∀ (n:Nat) (vs:List Value),Bp (List.replicate n (zeroCells e)).flatten vs=true→rows (Dat w F e) (List.replicate n e.zero) vs:=by
   intro n
   induction n with
   |zero=>intro vs h;cases vs with
    |nil=>exact rfl
    |cons v vs=>simp[Bp]at h
   |succ n ihn=>
    intro vs h
    rw[Arx,Aqt]at h
    obtain⟨v1,v2,rfl,h1,h2⟩:=app _ _ _ h
    exact⟨v1,v2,rfl,ih _ h1,ihn _ h2⟩
  exact key n vs h
theorem TD{F:Nat→Prop}{t:Ty}{z:Value}(h:Bp (zeroCells t) z.cells.toList=true)(ha:t.isAgg=ADU z):Bj w F t t.zero z:=by
 have hd:=B8 (w:=w) (F:=F) t _ h
 unfold Bj
 split
 ·rename_i hg
  rw[hg]at ha
  cases z<;>simp[ADU]at ha
  exact⟨_,rfl,hd⟩
 ·rename_i hg
  have hz:z.cells.toList=[z]:=by
   cases z<;>simp_all [ADU,Value.cells]
  rw[hz]at hd;exact hd
end
end Go.Pev
end
section
namespace Go.Pev
open Go.RowKit
def TB(P:Program)(g:FuncId):Prop:=∀ args w,(callFunc g args).run P w = .ok (.enter g args) w
def AO(P:Program)(g:FuncId)(s:Spec):Prop:=
 ∀ R args H fz slot k r,s R args H fz slot k=some r→∃ v e,k v e=some r∧(∀ R' k',s R' args H fz slot k'=k' v e)∧TB P g ∧
  ∀ w F m vals,HI w F m H fz→Ag w F m H args vals→Calls P g vals.toArray w fun en w'=>∃ u,en = .returned u∧∃ F' m',Av w F m H fz w' F' m' (Ck e H) (GC e fz)∧Rep w' F' m' (Ck e H) v u
def AOp(P:Program)(op:Op)(ty:TypeId)(ρ:Operand→AV)(H:List Ob)(fz:List Bool)(v:AV)(e:Eff):Prop:=
 ∀ (w:World) (F:Nat→Prop) (m:Mp) (a:Act) (o:Oper) (next:Act→World→Prop) (Q:Exit→Act→World→Prop),o.op=op→o.type=ty→HI w F m H fz→(∀ x,Rep w F m H (ρ x) (a.eval x)) →
  (∀ u w' F' m',Av w F m H fz w' F' m' (Ck e H) (GC e fz)→Rep w' F' m' (Ck e H) v u→next (a.put o.dst u) w')→o.wp P a w next Q
section
variable {P:Program} {op:Op} {ty:TypeId} {ρ:Operand→AV} {H:List Ob} {fz:List Bool} {v:AV} {e:Eff}
theorem A9(h:∀ (w:World) (F:Nat→Prop) (m:Mp) (ρc:Operand→Value) (o:Oper),o.op=op→o.type=ty→HI w F m H fz→(∀ x,Rep w F m H (ρ x) (ρc x)) →
  ∃ u w' F' m',(execOp ρc o).run P w = .ok (.value u) w'∧Av w F m H fz w' F' m' (Ck e H) (GC e fz)∧Rep w' F' m' (Ck e H) v u):AOp P op ty ρ H fz v e:=by
 intro w F m a o next Q ho ht hi hr hn
 obtain⟨u,w',F',m',h1,h2,h3⟩:=h w F m a.eval o ho ht hi hr
 unfold Oper.wp
 rw[h1]
 exact hn u w' F' m' h2 h3
theorem Fv(h:∀ (w:World) (F:Nat→Prop) (m:Mp) (ρc:Operand→Value) (o:Oper),o.op=op→o.type=ty→HI w F m H fz→(∀ x,Rep w F m H (ρ x) (ρc x)) →
  ∃ w' F' m',(execOp ρc o).run P w = .ok .skip w'∧Av w F m H fz w' F' m' (Ck e H) (GC e fz)):AOp P op ty ρ H fz .junk e:=by
 intro w F m a o next Q ho ht hi hr hn
 obtain⟨w',F',m',h1,h2⟩:=h w F m a.eval o ho ht hi hr
 unfold Oper.wp
 rw[h1]
 exact hn undef w' F' m' h2 (by unfold Rep;trivial)
theorem Ac(h:∀ (w:World) (F:Nat→Prop) (m:Mp) (ρc:Operand→Value) (o:Oper),o.op=op→o.type=ty→HI w F m H fz→(∀ x,Rep w F m H (ρ x) (ρc x)) →
  ∃ u,(execOp ρc o).run P w = .ok (.value u) w∧Rep w F m H v u):AOp P op ty ρ H fz v {}:=
 A9 fun w F m ρc o ho ht hi hr=>let ⟨u,h1,h2⟩:=h w F m ρc o ho ht hi hr;⟨u,w,F,m,h1,Av.refl hi,h2⟩
end
def Claim(P:Program)(E:Env)(o:Op):Prop:=
 ∀ (R:Type) (ty:TypeId) (ρ:Operand→AV) (H:List Ob) (fz:List Bool) (slot:Nat) (k:AV→Eff→Option R) (r:R),evalOp P E R o ty ρ H fz slot k=some r →
  ∃ v e,k v e=some r∧(∀ R' (k':AV→Eff→Option R'),evalOp P E R' o ty ρ H fz slot k'=k' v e)∧AOp P o ty ρ H fz v e
section
variable {P:Program} {E:Env}
theorem AZd(x:Operand):Claim P E (.move x):=by
 intro R ty ρ H fz slot k r h
 simp only[evalOp]at h
 split at h
 ·rename_i hx
  refine⟨_,_,h,fun R' k'=>by simp[evalOp,hx],Ac fun w F m ρc o ho ht hi hr=>⟨ρc x,by simp[execOp,ho],?_⟩⟩
  have:=hr x
  rw[hx]at this
  unfold Rep at this
  unfold Ai3
  split<;>(unfold Rep;exact this)
 ·rename_i hx
  refine⟨_,_,h,fun R' k' => ?_,Ac fun w F m ρc o ho ht hi hr=>⟨ρc x,by simp[execOp,ho],hr x⟩⟩
  simp only[evalOp]
theorem AOI(x:Operand):Claim P E (.assign x):=by
 intro R ty ρ H fz slot k r h
 simp only[evalOp]at h
 split at h
 ·rename_i hx
  refine⟨_,_,h,fun R' k'=>by simp[evalOp,hx],Ac fun w F m ρc o ho ht hi hr=>⟨ρc x,by simp[execOp,ho],?_⟩⟩
  have:=hr x
  rw[hx]at this
  unfold Rep at this
  unfold Ai3
  split<;>(unfold Rep;exact this)
 ·rename_i hx
  refine⟨_,_,h,fun R' k' => ?_,Ac fun w F m ρc o ho ht hi hr=>⟨ρc x,by simp[execOp,ho],hr x⟩⟩
  simp only[evalOp]
theorem Cn{w:World}{F:Nat→Prop}{m:Mp}{H:List Ob}{b:Bool}{v:Value}(h:Rep w F m H (.data .bool b) v):v = .bool b:=by
 unfold Rep Bj at h
 have h:Dat w F .bool b [v]:=h
 simpa [Dat]using h
theorem BD{w:World}{F:Nat→Prop}{m:Mp}{H:List Ob}{k:IntKind}{n:Int}{v:Value}(h:Rep w F m H (.data (.int k) n) v):v = .int k n:=by
 unfold Rep Bj at h
 have h:Dat w F (.int k) n [v]:=h
 simpa [Dat]using h
theorem BY{w:World}{F:Nat→Prop}{m:Mp}{H:List Ob}(b:Bool):Rep w F m H (.data .bool b) (.bool b):=by
 unfold Rep Bj;exact rfl
theorem Ax{w:World}{F:Nat→Prop}{m:Mp}{H:List Ob}(k:IntKind)(n:Int):Rep w F m H (.data (.int k) n) (.int k n):=by
 unfold Rep Bj;exact rfl
theorem AZc(c a b:Operand):Claim P E (.pick c a b):=by
 intro R ty ρ H fz slot k r h
 simp only[evalOp]at h
 split at h
 ·rename_i hx
  refine⟨_,_,h,fun R' k'=>by simp[evalOp,hx],Ac fun w F m ρc o ho ht hi hr=>⟨ρc a,?_,hr a⟩⟩
  have:=Cn (hx▸hr c)
  simp[execOp,ho,this,asBool]
 ·rename_i hx
  refine⟨_,_,h,fun R' k'=>by simp[evalOp,hx],Ac fun w F m ρc o ho ht hi hr=>⟨ρc b,?_,hr b⟩⟩
  have:=Cn (hx▸hr c)
  simp[execOp,ho,this,asBool]
 ·cases h
theorem ASb{T:TypeId}{n:Nat}(h:AX3 P T=some n):∃ i z,P.info? T=some i∧i.zero=some z∧(∀ u∈z.cells.toList,u.oneCell'=true)∧n=z.cells.size:=by
 unfold AX3 at h
 split at h
 ·rename_i i hi
  split at h
  ·rename_i z hz
   split at h
   ·rename_i ha
    cases h
    exact⟨i,z,hi,hz,Apt.1 ha,rfl⟩
   ·cases h
  ·cases h
 ·cases h
theorem AT6(T:TypeId):Claim P E (.alloc T):=by
 intro R ty ρ H fz slot k r h
 simp only[evalOp]at h
 split at h
 ·rename_i t cs hz
  split at h
  ·rename_i hf
   obtain⟨_,rfl,i,z,hi0,hz0,hok,hsz,_⟩:=B9 hz
   refine⟨_,_,h,fun R' k'=>by simp[evalOp,hz,hf],A9 fun w F m ρc o ho ht hi hr => ?_⟩
   have hrun:(execOp ρc o).run P w = .ok (.value (.pointer (some ⟨w.heap.size,0,none⟩))) (w.alloc (.cells z.cells T)):=by
    simp[execOp,ho,Instr.alloc,Bn hi0 hz0,newVar,newRow]
   have hg:=Av.new (w':=w.alloc (.cells z.cells T)) hi hf (ob:=.box (zeroCells t)) trivial (some (w.heap.size,0)) rfl rfl rfl (by simp) (fun b hb=>Below.heap_alloc w _ b hb)
    (fun b c h=>by cases h;exact ApY _)
    (fun _=>⟨w.heap.size,0,z.cells,T,rfl,heap_alloc_new w _,KJ _ _ hok,PB _ _ hok⟩)
   refine⟨_,_,F,_,hrun,hg,?_⟩
   unfold Rep
   have hlt:=At (BW hf).1
   rw[show Ck { objs:=[(slot,.box (zeroCells t))] } H=H.set slot (.box (zeroCells t))from rfl,BM hlt,Ar]
   exact⟨_,_,rfl,rfl⟩
  ·cases h
 ·rename_i hz
  split at h
  ·rename_i n hj
   split at h
   ·rename_i hf
    obtain⟨i,z,hi0,hz0,hone,rfl⟩:=ASb hj
    refine⟨_,_,h,fun R' k'=>by simp[evalOp,hz,hj,hf],A9 fun w F m ρc o ho ht hi hr => ?_⟩
    have hrun:(execOp ρc o).run P w = .ok (.value (.pointer (some ⟨w.heap.size,0,none⟩))) (w.alloc (.cells z.cells T)):=by
     simp[execOp,ho,Instr.alloc,Bn hi0 hz0,newVar,newRow]
    have hg:=Av.new (w':=w.alloc (.cells z.cells T)) hi hf (ob:=.box (List.replicate z.cells.size .junk)) trivial (some (w.heap.size,0)) rfl rfl rfl (by simp) (fun b hb=>Below.heap_alloc w _ b hb)
     (fun b c h=>by cases h;exact ApY _)
     (fun _=>⟨w.heap.size,0,z.cells,T,rfl,heap_alloc_new w _,DI (by simp) (fun i c v hc _=>by
      rw[Arc (Apb hc)];unfold Rep;trivial),hone⟩)
    refine⟨_,_,F,_,hrun,hg,?_⟩
    unfold Rep
    have hlt:=At (BW hf).1
    rw[show Ck { objs:=[(slot,.box (List.replicate z.cells.size .junk))] } H=H.set slot (.box (List.replicate z.cells.size .junk))from rfl,BM hlt,Ar]
    exact⟨_,_,rfl,rfl⟩
   ·cases h
  ·cases h
theorem Afy(T:TypeId)(x:Operand):Claim P E (.box T x):=by
 intro R ty ρ H fz slot k r h
 simp only[evalOp]at h
 split at h
 ·rename_i n hs
  split at h
  ·rename_i vs hv
   split at h
   ·rename_i hd
    split at h
    ·rename_i hf
     refine⟨_,_,h,fun R' k'=>by simp[evalOp,hs,hv,hd,hf],A9 fun w F m ρc o ho ht hi hr => ?_⟩
     have hrun:(execOp ρc o).run P w = .ok (.value (.pointer (some ⟨w.heap.size,0,none⟩))) (w.alloc (.cells (ρc x).cells T)):=by
      simp[execOp,ho,Instr.box,newVar,newRow]
     have hrx:=cells?_ok hv (hr x)
     have h1:=cells?_one hv (hr x)
     have hg:=Av.new (w':=w.alloc (.cells (ρc x).cells T)) hi hf (ob:=.box vs) trivial (some (w.heap.size,0)) rfl rfl rfl (by simp) (fun b hb=>Below.heap_alloc w _ b hb)
      (fun b c h=>by cases h;exact ApY _)
      (fun hmono=>⟨w.heap.size,0,(ρc x).cells,T,rfl,heap_alloc_new w _,DI (Aq hrx) fun i c v hc hv=>by
        obtain⟨v',hv',hr'⟩:=CL hrx hc
        rw[hv]at hv';cases hv'
        exact hmono hr',h1⟩)
     refine⟨_,_,F,_,hrun,hg,?_⟩
     unfold Rep
     have hlt:=At (BW hf).1
     rw[show Ck { objs:=[(slot,.box vs)] } H=H.set slot (.box vs)from rfl,BM hlt,Ar]
     exact⟨_,_,rfl,rfl⟩
    ·cases h
   ·cases h
  ·cases h
 ·cases h
theorem X5(off:Nat):∀ (l:List Value) (n:Nat) (us:Array Value),off+n+l.length≤us.size →
  ((l.zipIdx n).foldl (fun cs (p:Value×Nat)=>cs.setIfInBounds (off+p.2) p.1) us).toList=us.toList.take (off+n)++l++us.toList.drop (off+n+l.length):=by
 intro l
 induction l with
 |nil=>intro n us _;simp
 |cons v l ih=>
  intro n us h
  simp only[ApW]at h
  simp only[List.zipIdx_cons,AqT]
  rw[ih (n+1) _ (by simp;omega)]
  have hlt:off+n<us.toList.length:=by simp;omega
  rw[Array.toList_setIfInBounds,List.set_eq_take_append_cons_drop,ApZ hlt]
  have ht:(us.toList.take (off+n)).length=off+n:=by rw[Api];omega
  have e1:(us.toList.take (off+n)++v::us.toList.drop (off+n+1)).take (off+(n+1))=us.toList.take (off+n)++[v]:=by
   rw[ArR,AqJ (by omega),ht,show off+(n+1)-(off+n)=1 from by omega];rfl
  have e2:(us.toList.take (off+n)++v::us.toList.drop (off+n+1)).drop (off+(n+1)+l.length)=us.toList.drop (off+n+(l.length+1)):=by
   rw[Asg,Aqx (by omega),ht,Ap9,show off+(n+1)+l.length-(off+n)=l.length+1 from by omega,List.drop_succ_cons,ArF]
   congr 1;omega
  rw[e1,e2];simp
theorem ANO{w:World}{F:Nat→Prop}{m:Mp}{H:List Ob}{ρ:Operand→AV}{ρc:Operand→Value}(hr:∀ x,Rep w F m H (ρ x) (ρc x)){pl pl':Nat→Option (Nat×Nat)}(hpl:∀ i p,pl i=some p→pl' i=some p):
  ∀ (ps:List (Nat×Operand)) {cs out:List AV} {us:Array Value},EX pl (ps.map fun p=>(p.1,ρ p.2)) cs=some out→Ag w F m H cs us.toList→(∀ x∈us.toList,x.oneCell'=true) →
   ∃ us':Array Value,Instr.fill pl' us (ps.map fun p=>(p.1,ρc p.2))=some us'∧Ag w F m H out us'.toList∧∀ x∈us'.toList,x.oneCell'=true:=by
 intro ps
 induction ps with
 |nil=>
  intro cs out us h h1 h2
  simp only[ArB,EX,ApN]at h;subst h
  exact⟨us,rfl,h1,h2⟩
 |cons p ps ih=>
  intro cs out us h h1 h2
  obtain⟨i,x⟩:=p
  simp only[Ap2,EX]at h
  split at h
  ·cases h
  ·rename_i off size hp
   split at h
   ·cases h
   ·rename_i vs hv
    split at h
    ·cases h
    ·rename_i hd
     split at h
     ·cases h
     ·rename_i cs1 hc
      simp only[ApQ]at hd
      have hrx:=cells?_ok hv (hr x)
      have h1x:=cells?_one hv (hr x)
      obtain⟨hle,hr1⟩:=I8 hc h1 hrx
      have hlen:=Aq hrx
      have hlen2:=Aq h1
      have hsz:(ρc x).cells.size=size:=by rw[← Apl,hlen,hd]
      have hfold:((ρc x).cells.zipIdx.foldl (fun cs (c,j)=>cs.setIfInBounds (off+j) c) us).toList=us.toList.take off++(ρc x).cells.toList++us.toList.drop (off+vs.length):=by
       have:=X5 off (ρc x).cells.toList 0 us (by simp only[Apl]at hlen2 hlen ⊢;omega)
       rw[← Array.foldl_toList,Array.toList_zipIdx,this]
       rw[Aqp,hlen]
      obtain⟨us',e1,e2,e3⟩:=ih (us:=(ρc x).cells.zipIdx.foldl (fun cs (c,j)=>cs.setIfInBounds (off+j) c) us) h (by rw[hfold];exact hr1) (by
       rw[hfold]
       intro y hy
       simp only[ApR]at hy
       rcases hy with(hy|hy)|hy
       ·exact h2 y (Arq hy)
       ·exact h1x y hy
       ·exact h2 y (Aqv hy))
      refine⟨us',?_,e2,e3⟩
      simp only[Ap2,Instr.fill,hpl _ _ hp]
      rw[ApV (by
       simp only[Apl]at hlen2
       simp[hsz];omega)]
      exact e1
end
end Go.Pev
end
section
namespace Go.Pev
open Go.RowKit
section
variable {P:Program}
theorem AUj{w w':World}{F F':Nat→Prop}{m m':Mp}{H H':List Ob}(h:∀ {a:AV} {v:Value},Rep w F m H a v→Rep w' F' m' H' a v){cs:List AV}{us:List Value}(hr:Ag w F m H cs us):Ag w' F' m' H' cs us:=by
 refine DI (Aq hr) fun i c v hc hv => ?_
 obtain⟨v',hv',hr'⟩:=CL hr hc
 rw[hv]at hv';cases hv'
 exact h hr'
theorem AId{H:List Ob}{fz:List Bool}{id:Nat}{T:TypeId}{tgt:Nat}{is:List Int}(h:H[id]? = some (.prs T tgt is)):owned H fz id:=by unfold owned;rw[h];trivial
theorem AS8{H:List Ob}{fz:List Bool}{slot id:Nat}{T:TypeId}{tgt:Nat}{is:List Int}(hf:Au H fz slot=true)(ho:H[id]? = some (.prs T tgt is)):slot≠id:=by
 rintro rfl
 rw[(BW hf).1]at ho;cases ho
theorem YI{T e:TypeId}(h:cellAt P T=some e):P.underlying T=some (.slice e)∧∃ i z,P.info? e=some i∧i.zero=some z∧i.size=1∧z.cells.size=1∧i.bytes≤1024:=by
 unfold cellAt at h
 split at h
 ·rename_i e' hu
  split at h
  ·rename_i i hi
   split at h
   ·rename_i z hz
    split at h
    ·rename_i hd
     simp only[ApN]at h
     subst h
     simp only[ApU,ApQ]at hd
     exact⟨hu,i,z,hi,hz,hd.1,hd.2.1,hd.2.2⟩
    ·cases h
   ·cases h
  ·cases h
 ·cases h
theorem AHC{w:World}{F:Nat→Prop}{m:Mp}{H:List Ob}{fz:List Bool}(hi:HI w F m H fz){slot:Nat}(hf:Au H fz slot=true)(T:TypeId)(tgt:Nat)(a:Option Addr):
  ∃ m',Av w F m H fz w F m' (H.set slot (.prs T tgt [])) fz∧Rep w F m' (H.set slot (.prs T tgt [])) (.own slot) (.slice a 0 0):=by
 have hg:=Av.new (w':=w) hi hf (ob:=.prs T tgt []) trivial none rfl rfl rfl (ApY _) (fun _ _=>rfl) (fun b c h=>by cases h) (fun _=>(rfl:([]:List Int)=[]))
 refine⟨_,hg,?_⟩
 unfold Rep
 have hlt:=At (BW hf).1
 rw[BM hlt,Ar]
 exact⟨a,rfl⟩
theorem Rf{w:World}{F:Nat→Prop}{m:Mp}{H:List Ob}{fz:List Bool}(hi:HI w F m H fz){slot:Nat}(hf:Au H fz slot=true){T:TypeId}{tgt:Nat}{is:List Int}{vs:Array Value}{cap:Nat}
  {w':World} (hb:w'.heap[w.heap.size]? = some (.cells vs T (0,0))) (h1:w'.os=w.os) (h2:w'.tape=w.tape) (h3:w'.output=w.output) (hsz:w.heap.size≤w'.heap.size) (hk:∀ b,b<w.heap.size→w'.heap[b]? = w.heap[b]?)
  (hcap:is.length≤cap) (hmax:cap≤maxLen) (hvs:vs.size=cap) {us:List Value} (hr:Ag w F m H (FY tgt is) us) (hone:∀ u∈us,u.oneCell'=true) (htake:vs.toList.take us.length=us) :
  ∃ m',Av w F m H fz w' F m' (H.set slot (.prs T tgt is)) fz∧Rep w' F m' (H.set slot (.prs T tgt is)) (.own slot) (.slice (some ⟨w.heap.size,0,none⟩) is.length cap):=by
 have hg:=Av.new (w':=w') hi hf (ob:=.prs T tgt is) trivial (some (w.heap.size,cap)) h1 h2 h3 hsz hk (fun b c h=>by cases h;exact ApY _)
  (fun hmono=>⟨vs,us,hb,hcap,hmax,hvs,AUj hmono hr,hone,htake⟩)
 refine⟨_,hg,?_⟩
 unfold Rep
 have hlt:=At (BW hf).1
 rw[BM hlt,Ar]
 rfl
theorem ABt(tgt:Nat)(is:List Int):(FY tgt is).length=is.length:=by simp[FY]
theorem Ah8(tgt:Nat)(is js:List Int):FY tgt (is++js)=FY tgt is++FY tgt js:=by simp[FY]
end
end Go.Pev
end
section
namespace Go.Pev
open Go.RowKit
section
variable {P:Program} {E:Env}
theorem info_of_underlying{T:TypeId}{d:TypeDesc}(h:P.underlying T=some d):∃ i,P.info? T=some i:=by
 unfold Program.underlying at h
 split at h
 ·rename_i h1;exact⟨_,h1⟩
 ·rename_i h1;exact⟨_,h1⟩
 ·cases h
theorem Ym{n:Nat}{T:TypeId}{t:Ty}(h:AGV P n T=some t):∃ d,P.underlying T=some d:=by
 cases n with
 |zero=>simp[AGV]at h
 |succ n=>
  simp only[AGV]at h
  split at h<;>first|exact⟨_,by assumption⟩|cases h
theorem mapM_some{α β:Type}{f:α→Option β}:∀ {l:List α} {ys:List β},l.mapM f=some ys→∀ x∈l,∃ y,f x=some y:=by
 intro l
 induction l with
 |nil=>intro ys _ x hx;cases hx
 |cons a l ih=>
  intro ys h x hx
  rw[List.mapM_cons]at h
  simp only[bind,AqA,pure]at h
  obtain⟨y,h1,ys',h2,_⟩:=h
  rcases ApT.1 hx with rfl|hx
  ·exact⟨y,h1⟩
  ·exact ih h2 x hx
theorem ATG{T:TypeId}{t:Ty}{fs:Array Field}(ht:AU4 P T=some t)(hu:P.underlying T=some (.struct fs)):∀ f∈fs.toList,∃ i,P.info? f.type=some i:=by
 have gen:∀ n,AGV P (n+1) T=some t→∃ ts,fs.toList.mapM (fun f=>AGV P n f.type)=some ts:=by
  intro n h
  simp only[AGV,hu,Ape]at h
  exact⟨_,h.choose_spec.1⟩
 obtain⟨ts,h1⟩:=gen 11 ht
 intro f hf
 obtain⟨t',h2⟩:=mapM_some h1 f hf
 obtain⟨d,h3⟩:=Ym h2
 exact info_of_underlying h3
theorem run_places(w:World):∀ (l:List Field),(∀ f∈l,∃ i,P.info? f.type=some i) →
  (l.mapM (fun f=>do pure (f.offset,← sizeOf f.type):Field→Sem (Nat×Nat))).run P w = .ok (l.map fun f=>(f.offset,(BI P f.type).getD 0)) w:=by
 intro l
 induction l with
 |nil=>intro _;simp[List.mapM_nil]
 |cons f l ih=>
  intro h
  obtain⟨i,hi⟩:=h f (by simp)
  rw[List.mapM_cons]
  have:=ih fun g hg=>h g (by simp[hg])
  simp only[Sem.run_bind,run_sizeOf hi,Result.andThen_ok,Sem.run_pure,this,Ap2,BI,hi,Ari,AqI]
theorem AWV{T:TypeId}{cs:List AV}{fs:Array Field}(h:Ah3 P T=some cs)(hu:P.underlying T=some (.struct fs)):
  ∃ i z,P.info? T=some i∧i.zero=some z∧(∀ u∈z.cells.toList,u.oneCell'=true)∧(∀ f∈fs.toList,∃ i,P.info? f.type=some i)∧cs=List.replicate z.cells.toList.length .junk:=by
 unfold Ah3 at h
 split at h
 ·rename_i i fs' hi hu'
  rw[hu]at hu'
  cases hu'
  split at h
  ·rename_i z hz
   split at h
   ·rename_i hok
    cases h
    rw[ApU,Apt,Apt]at hok
    refine⟨i,z,hi,hz,hok.1,fun f hf => ?_,by simp⟩
    have:=hok.2 f hf
    rw[Aq3]at this
    exact this
   ·cases h
  ·cases h
 ·cases h
theorem AJv{w:World}{F:Nat→Prop}{m:Mp}{H:List Ob}:∀ vs:List Value,Ag w F m H (List.replicate vs.length .junk) vs
 |[]=>by simp[Ag]
 |v::vs=>by
  rw[ApW,Arx]
  unfold Ag
  exact⟨v,vs,rfl,by unfold Rep;trivial,AJv vs⟩
theorem AT4(T:TypeId)(parts:Array (Nat×Operand)):Claim P E (.build T parts):=by
 intro R ty ρ H fz slot k r h
 simp only[evalOp]at h
 split at h
 ·rename_i t cs hz
  obtain⟨hty,rfl,i,z,hi0,hz0,hok,hsz,hza⟩:=B9 hz
  split at h
  ·rename_i fs hu
   split at h
   ·rename_i cs' hb
    refine⟨_,_,h,fun R' k'=>by simp only[evalOp,hz,hu,hb],Ac fun w F m ρc o ho ht hi hr => ?_⟩
    have hpl:∀ (i:Nat) (p:Nat×Nat),(match fs[i]? with
      |some f=>(BI P (Field.type f)).map fun n=>(Field.offset f,n)
      |none=>none)=some p→(fs.map fun f=>(f.offset,(BI P f.type).getD 0))[i]? = some p:=by
     intro i p hp
     split at hp
     ·rename_i f hf
      simp only[Ape]at hp
      obtain⟨n,h1,rfl⟩:=hp
      simp[hf,h1]
     ·cases hp
    obtain⟨us,h1,h2,h3⟩:=ANO hr hpl parts.toList hb (KJ _ _ hok) (PB _ _ hok)
    refine⟨.agg us,?_,?_⟩
    ·have hp:=run_places (P:=P) w fs.toList (ATG hty hu)
     have h1':Instr.fill ((fs.map fun f=>(f.offset,(BI P f.type).getD 0))[·]?) z.cells (parts.map fun p=>(p.1,ρc p.2)).toList=some us:=by rw[Aqq];exact h1
     simp only[execOp,ho,Instr.build,Sem.run_bind,Bn hi0 hz0,Result.andThen_ok,run_underlying hu]
     rw[AsQ]
     simp only[Sem.run_map,hp,Result.andThen_ok]
     rw[show(List.map (fun f=>(f.offset,(BI P f.type).getD 0)) fs.toList).toArray=fs.map fun f=>(f.offset,(BI P f.type).getD 0)from by rw[← Aqq,ArG]]
     rw[h1']
     rfl
    ·unfold Rep
     exact⟨us,rfl,h2,h3⟩
   ·cases h
  ·rename_i n e hu
   split at h
   ·rename_i sz hs
    split at h
    ·rename_i cs' hb
     obtain⟨ie,hie,rfl⟩:=BK hs
     refine⟨_,_,h,fun R' k'=>by simp only[evalOp,hz,hu,hs,hb],Ac fun w F m ρc o ho ht hi hr => ?_⟩
     obtain⟨us,h1,h2,h3⟩:=ANO hr (fun i p h=>h) parts.toList hb (KJ _ _ hok) (PB _ _ hok)
     refine⟨.agg us,?_,?_⟩
     ·have h1':Instr.fill (fun i=>some (i*ie.size,ie.size)) z.cells (parts.map fun p=>(p.1,ρc p.2)).toList=some us:=by rw[Aqq];exact h1
      simp only[execOp,ho,Instr.build,Sem.run_bind,Bn hi0 hz0,Result.andThen_ok,run_underlying hu,run_sizeOf hie,h1']
      rfl
     ·unfold Rep
      exact⟨us,rfl,h2,h3⟩
    ·cases h
   ·cases h
  ·cases h
 ·rename_i hz
  split at h
  ·rename_i cs fs hraw hu
   split at h
   ·rename_i cs' hb
    obtain⟨i,z,hi0,hz0,hone,hinf,rfl⟩:=AWV hraw hu
    refine⟨_,_,h,fun R' k'=>by simp only[evalOp,hz,hraw,hu,hb],Ac fun w F m ρc o ho ht hi hr => ?_⟩
    have hpl:∀ (i:Nat) (p:Nat×Nat),(match fs[i]? with
      |some f=>(BI P (Field.type f)).map fun n=>(Field.offset f,n)
      |none=>none)=some p→(fs.map fun f=>(f.offset,(BI P f.type).getD 0))[i]? = some p:=by
     intro i p hp
     split at hp
     ·rename_i f hf
      simp only[Ape]at hp
      obtain⟨n,h1,rfl⟩:=hp
      simp[hf,h1]
     ·cases hp
    obtain⟨us,h1,h2,h3⟩:=ANO hr hpl parts.toList hb (AJv (w:=w) (F:=F) (m:=m) (H:=H) z.cells.toList) hone
    refine⟨.agg us,?_,?_⟩
    ·have hp:=run_places (P:=P) w fs.toList hinf
     have h1':Instr.fill ((fs.map fun f=>(f.offset,(BI P f.type).getD 0))[·]?) z.cells (parts.map fun p=>(p.1,ρc p.2)).toList=some us:=by rw[Aqq];exact h1
     simp only[execOp,ho,Instr.build,Sem.run_bind,Bn hi0 hz0,Result.andThen_ok,run_underlying hu]
     rw[AsQ]
     simp only[Sem.run_map,hp,Result.andThen_ok]
     rw[show(List.map (fun f=>(f.offset,(BI P f.type).getD 0)) fs.toList).toArray=fs.map fun f=>(f.offset,(BI P f.type).getD 0)from by rw[← Aqq,ArG]]
     rw[h1']
     rfl
    ·unfold Rep
     exact⟨us,rfl,h2,h3⟩
   ·cases h
  ·cases h
theorem QP{w:World}{F:Nat→Prop}{t:Ty}{x:t.den}{u:Value}(h:Bj w F t x u):Dat w F t x u.cells.toList:=by
 unfold Bj at h
 split at h
 ·obtain⟨vs,rfl,h⟩:=h;exact h
 ·have h1:=Dat.IV t h u (by simp)
  rw[HD h1];exact h
theorem ANP{w:World}{F:Nat→Prop}{m:Mp}{H:List Ob}{fz:List Bool}(hi:HI w F m H fz){ρ:Operand→AV}{ρc:Operand→Value}(hr:∀ x,Rep w F m H (ρ x) (ρc x)){t:Ty}:
  ∀ (ps:List (Nat×Operand)) {xs xs':List t.den} {fr fr':List Nat} {us:Array Value},DA H t (ps.map fun p=>(p.1,ρ p.2)) xs fr=some (xs',fr')→rows (Dat w (Dx F m H fr) t) xs us.toList →
   ∃ us':Array Value,Instr.fill (fun i=>some (i*t.size,t.size)) us (ps.map fun p=>(p.1,ρc p.2))=some us'∧rows (Dat w (Dx F m H fr') t) xs' us'.toList∧xs'.length=xs.length:=by
 intro ps
 induction ps with
 |nil=>
  intro xs xs' fr fr' us h hrw
  simp only[ArB,DA,ApN,Apj]at h
  obtain⟨rfl,rfl⟩:=h
  exact⟨us,rfl,hrw,rfl⟩
 |cons p ps ih=>
  intro xs xs' fr fr' us h hrw
  obtain⟨i,o⟩:=p
  simp only[Ap2,DA]at h
  split at h
  ·rename_i x f hx hd
   simp only[ApQ]at hd
   have hk:=fun(x:t.den) cs (h:Dat w (Dx F m H (fr++f)) t x cs)=>Dat.length t h
   have hdx:Dat w (Dx F m H (fr++f)) t x (ρc o).cells.toList:=(QP (FD hi hx (hr o))).Ajw (fun i hi=>by simp[hi])
   have hrw':rows (Dat w (Dx F m H (fr++f)) t) xs us.toList:=BN (fun x _ cs hx=>hx.Ajw (fun i hi=>by simp[hi])) hrw
   have hlen:=A7 hk hrw'
   have hl2:=hk _ _ hdx
   have hle:i*t.size+t.size≤us.size:=by
    rw[← Apl,hlen]
    have:(i+1)*t.size≤xs.length*t.size:=AqC _ hd
    rwa [AqW,Aq4]at this
   have hfold:((ρc o).cells.zipIdx.foldl (fun cs (c,j)=>cs.setIfInBounds (i*t.size+j) c) us).toList=us.toList.take (i*t.size)++(ρc o).cells.toList++us.toList.drop (i*t.size+t.size):=by
    have:=X5 (i*t.size) (ρc o).cells.toList 0 us (by rw[hl2];omega)
    rw[← Array.foldl_toList,Array.toList_zipIdx,this,Aqp,hl2]
   obtain⟨us',e1,e2,e3⟩:=ih (us:=(ρc o).cells.zipIdx.foldl (fun cs (c,j)=>cs.setIfInBounds (i*t.size+j) c) us) h (by rw[hfold];exact AQe hk hrw' hd hdx)
   refine⟨us',?_,e2,by rw[e3,Aqb]⟩
   simp only[Ap2,Instr.fill]
   rw[ApV (by
    simp only[Apl]at hl2
    simp[hl2];omega)]
   exact e1
  ·cases h
theorem Ew{w:World}{F:Nat→Prop}{t:Ty}{z:List Value}(hz:Dat w F t t.zero z)(n:Nat):rows (Dat w F t) (List.replicate n t.zero) (List.replicate n z).flatten:=by
 induction n with
 |zero=>rfl
 |succ n ih=>exact⟨z,_,by simp[Arx],hz,ih⟩
theorem Dh(z:Array Value):∀ (n:Nat),((Array.range (n*z.size)).map (z[· % z.size]!)).toList=(List.replicate n z.toList).flatten:=by
 intro n
 rw[Aqq,Array.toList_range]
 induction n with
 |zero=>simp
 |succ n ih=>
  rw[AqW,Aq4,List.range_add,AqO,ih,List.replicate_succ']
  simp only[Ary,Aqt,List.flatten_nil,Aqa,List.append_cancel_left_eq,List.map_map]
  apply Aru
  ·simp
  ·intro i h1 h2
   simp only[Apr,Apy]at h1
   simp[Nat.add_mod,ArC h1,h1]
theorem Cs{T:TypeId}{e:TypeId}{t:Ty}(h:sliceAt P T=some (e,t)):P.underlying T=some (.slice e)∧AU4 P e=some t∧0<t.size:=by
 unfold sliceAt at h
 split at h
 ·rename_i e' hu
  split at h
  ·rename_i x hx
   split at h
   ·rename_i hd
    simp only[ApN,Apj]at h
    obtain⟨rfl,rfl⟩:=h
    exact⟨hu,hx,by simpa using hd⟩
   ·cases h
  ·cases h
 ·cases h
theorem E4{w:World}{F:Nat→Prop}{m:Mp}{H:List Ob}{fz:List Bool}(hi:HI w F m H fz){slot:Nat}(hf:Au H fz slot=true){T:TypeId}{t:Ty}(ht:0<t.size){xs:List t.den}{vs:Array Value}{cap:Nat}
  {w':World} (hb:w'.heap[w.heap.size]? = some (.cells vs T (0,0))) (h1:w'.os=w.os) (h2:w'.tape=w.tape) (h3:w'.output=w.output) (hsz:w.heap.size≤w'.heap.size) (hk:∀ b,b<w.heap.size→w'.heap[b]? = w.heap[b]?)
  (hcap:xs.length≤cap) (hmax:cap≤maxLen) (hvs:vs.size=cap*t.size) {row:List Value} (hrow:rows (Dat w F t) xs row) (htake:vs.toList.take row.length=row) :
  ∃ m',Av w F m H fz w' F m' (H.set slot (.arr T t xs)) fz∧Rep w' F m' (H.set slot (.arr T t xs)) (.own slot) (.slice (some ⟨w.heap.size,0,none⟩) xs.length cap):=by
 have hc:∀ a:Addr,F a.block→w'.cell? a=w.cell? a:=fun a ha=>by simp[World.cell?,hk _ (hi.lt _ ha)]
 have hg:=Av.new (w':=w') hi hf (ob:=.arr T t xs) trivial (some (w.heap.size,cap)) h1 h2 h3 hsz hk (fun b c h=>by cases h;exact ApY _)
  (fun _=>⟨ht,vs,row,hb,hcap,hmax,hvs,BN (fun x _ cs hx=>hx.mono hc (fun _ h=>h) t) hrow,htake⟩)
 refine⟨_,hg,?_⟩
 unfold Rep
 have hlt:=At (BW hf).1
 rw[BM hlt,Ar]
 rfl
theorem HY{w:World}{T e:TypeId}{len:Nat}{t':Ty}{parts:Array (Nat×Value)}{i:TypeInfo}{z:Value}{us:Array Value}(hu:P.underlying T=some (.slice e))(hi0:P.info? e=some i)(hz0:i.zero=some z)
 (hsz:i.size=t'.size) (hd:len*t'.size≤16777216)
 (e1':Instr.fill (fun i=>some (i*t'.size,t'.size)) ((Array.range (len*t'.size)).map (z.cells[· % z.cells.size]!)) parts.toList=some us):(Instr.buildSlice T len parts).run P w = .ok (.slice (some ⟨w.heap.size,0,none⟩) len len) (w.alloc (.cells us e)):=by
 unfold Instr.buildSlice
 simp only[Sem.run_bind,run_underlying hu,Result.andThen_ok,run_sizeOf hi0,hsz]
 rw[ApV (by omega)]
 by_cases h0:len*t'.size=0
 ·have e2:Instr.fill (fun i=>some (i*t'.size,t'.size)) #[] parts.toList=some us:=by
   rw[h0,Array.range_zero',Array.map_empty]at e1';exact e1'
  simp only[h0]
  simp[e2,newRow,Array.range]
 ·rw[ApV h0]
  simp[Bn hi0 hz0,e1',newRow]
theorem Wb(T:TypeId)(len:Nat)(parts:Array (Nat×Operand)):Claim P E (.buildSlice T len parts):=by
 intro R ty ρ H fz slot k r h
 simp only[evalOp]at h
 split at h
 ·rename_i e t hsl
  split at h
  ·rename_i zz hz
   split at h
   ·rename_i hd
    split at h
    ·rename_i xs fr hp
     split at h
     ·rename_i hf
      refine⟨_,_,h,fun R' k'=>by simp only[evalOp,hsl,hz,hd,hp,hf],A9 fun w F m ρc o ho ht hi hr => ?_⟩
      obtain⟨hu,hty,hpos⟩:=Cs hsl
      obtain⟨t',cs'⟩:=zz
      obtain⟨hty',hcs',i,z,hi0,hz0,hok,hsz,hza⟩:=B9 hz
      subst hcs'
      have:t'=t:=by rw[hty]at hty';exact(AqP hty').symm
      subst this
      simp only[ApQ]at hd
      have hzd:=B8 (w:=w) (F:=F) t' _ hok
      have hzl:z.cells.size=t'.size:=by rw[← Apl];exact Dat.length t' hzd
      have hr0:rows (Dat w (Dx F m H []) t') (List.replicate len t'.zero) ((Array.range (len*t'.size)).map (z.cells[· % z.cells.size]!)).toList:=by
       have:=Dh z.cells len
       rw[hzl]at this
       rw[hzl,this]
       exact Ew hzd.frz len
      obtain⟨us,e1,e2,e3⟩:=ANP hi hr parts.toList hp hr0
      have hgf:=Av.freeze hi fr
      have hlen:=A7 (fun x cs (h:Dat w (Dx F m H fr) t' x cs)=>Dat.length t' h) e2
      have hxl:xs.length=len:=by rw[e3,AqD]
      have hbig:len≤16777216:=AqN (AsZ len hpos) hd
      obtain⟨m',hg,hrep⟩:=E4 hgf.2 hf (w':=w.alloc (.cells us e)) hpos (heap_alloc_new w _) rfl rfl rfl (by simp) (fun b hb=>Below.heap_alloc w _ b hb) (cap:=len) (by omega) (by simp only[maxLen];omega)
       (by rw[← Apl,hlen,hxl]) e2 (by rw[hlen,AqJ (by omega)])
      refine⟨_,_,_,m',?_,hgf.trans hg,hrep⟩
      have e1':Instr.fill (fun i=>some (i*t'.size,t'.size)) ((Array.range (len*t'.size)).map (z.cells[· % z.cells.size]!)) (parts.map fun p=>(p.1,ρc p.2)).toList=some us:=by rw[Aqq];exact e1
      rw[hxl]
      have:=HY (w:=w) hu hi0 hz0 hsz hd e1'
      simp[execOp,ho,this]
     ·cases h
    ·cases h
   ·cases h
  ·cases h
 ·rename_i hsl
  split at h
  ·rename_i e q hce hlen hps
   have hq:=hps
   rw[List.map_eq_singleton_iff]at hq
   obtain⟨p,hps',hqp⟩:=hq
   subst hqp
   dsimp only at h
   split at h
   ·rename_i tgt i sub hx
    split at h
    ·rename_i hc
     split at h
     ·rename_i hf
      refine⟨_,_,h,fun R' k'=>by simp only[evalOp,hsl,hce,hlen,hps,hx,hc,hf],A9 fun w F m ρc o ho ht hi hr => ?_⟩
      simp only[ApU,ApQ]at hc
      obtain⟨hp0,rfl,hlive⟩:=hc
      simp only[ApQ]at hlen
      subst hlen
      obtain⟨hu,ii,z,hi0,hz0,hsz,hzs,hby⟩:=YI hce
      have hrp:=hr p.2
      rw[hx]at hrp
      have hone:(ρc p.2).oneCell'=true:=by
       have h2:=hrp
       unfold Rep at h2
       cases hto:H[tgt]? with
       |none=>rw[hto]at h2;exact h2.elim
       |some o=>rw[hto]at h2;exact Dt.one h2
      have hpt:(ρc p.2).cells = #[ρc p.2]:=by rw[← ArG (xs:=(ρc p.2).cells),HD hone]
      have e1':Instr.fill (fun i=>some (i*Ty.bool.size,Ty.bool.size)) ((Array.range (1*Ty.bool.size)).map (z.cells[· % z.cells.size]!)) (parts.map fun p=>(p.1,ρc p.2)).toList=some #[ρc p.2]:=by
       rw[Aqq,hps']
       simp only[Ap2,ArB,hp0]
       have key:∀ (f:Fin 1→Value) (v:Value),(Array.ofFn f).setIfInBounds 0 v = #[v]:=by
        intro f v
        apply Array.ext
        ·simp
        ·intro j h1 h2
         have:j=0:=by simp at h2;omega
         subst this
         simp
       simp[Instr.fill,hpt,Ty.size,Array.range,key]
      have hrl:Ag w F m H (FY tgt [Int.ofNat i]) [ρc p.2]:=by
       show Ag w F m H [AV.eptr tgt (Int.ofNat i).toNat 0] [ρc p.2]
       unfold Ag
       exact⟨_,_,rfl,hrp,by unfold Ag;rfl⟩
      obtain⟨m',hg,hrep⟩:=Rf hi hf (w':=w.alloc (.cells #[ρc p.2] e)) (heap_alloc_new w _) rfl rfl rfl (by simp) (fun b hb=>Below.heap_alloc w _ b hb) (cap:=1) (by simp) (by simp only[maxLen];omega) (by simp) hrl (by simpa using hone) (by simp)
      refine⟨_,_,_,m',?_,hg,hrep⟩
      have:=HY (w:=w) (T:=T) (t':=.bool) hu hi0 hz0 (by rw[hsz];rfl) (by simp[Ty.size]) e1'
      simp[execOp,ho,this]
     ·cases h
    ·cases h
   ·cases h
  ·cases h
end
end Go.Pev
end
section
namespace Go.Pev
open Go.RowKit
section
variable {P:Program} {E:Env}
theorem Dr{w:World}{b:Nat}{vs:Array Value}{T:TypeId}{f:Nat×Nat}(h:w.heap[b]? = some (.cells vs T f))(i:Nat):w.cell? ⟨b,i,none⟩=vs[i]? := by
 simp[World.cell?,h]
theorem SC{w:World}{F:Nat→Prop}{m:Mp}{H:List Ob}{fz:List Bool}(hi:HI w F m H fz){id:Nat}{cs:List AV}(ho:H[id]? = some (.box cs)){off:Nat}{v:Value}(hr:Rep w F m H (.ptr id off) v):
  ∃ b c vs T,m id=some (b,c)∧v = .pointer (some ⟨b,off,none⟩)∧w.heap[b]? = some (.cells vs T (0,0))∧Ag w F m H cs vs.toList∧∀ u∈vs.toList,u.oneCell'=true:=by
 obtain⟨b,c,vs,T,e1,e2,e3,e4⟩:=hi.obj id _ ho
 unfold Rep G0 at hr
 rw[ho]at hr
 obtain⟨b',c',e5,e6⟩:=hr
 rw[e1]at e5;cases e5
 exact⟨b,c,vs,T,e1,e6,e2,e3,e4⟩
theorem LR{w:World}{F:Nat→Prop}{m:Mp}{H:List Ob}{fz:List Bool}(hi:HI w F m H fz){id:Nat}{T:TypeId}{t:Ty}{xs:List t.den}(ho:H[id]? = some (.arr T t xs)){i sub:Nat}{v:Value}(hr:Rep w F m H (.eptr id i sub) v):
  ∃ b cap vs row,m id=some (b,cap)∧v = .pointer (some ⟨b,i*t.size+sub,none⟩)∧i<xs.length∧w.heap[b]? = some (.cells vs T (0,0))∧xs.length≤cap∧cap≤maxLen∧vs.size=cap*t.size∧rows (Dat w F t) xs row∧vs.toList.take row.length=row∧0<t.size:=by
 obtain⟨h0,h⟩:=hi.obj id _ ho
 unfold Rep Dt at hr
 rw[ho]at hr
 obtain⟨hlt,b,c,e5,e6⟩:=hr
 rw[e5]at h
 obtain⟨vs,row,e1,e2,e3,e4,e7,e8⟩:=h
 exact⟨b,c,vs,row,e5,e6,hlt,e1,e2,e3,e4,e7,e8,h0⟩
theorem AZe(T:TypeId)(x:Operand):Claim P E (.load T x):=by
 intro R ty ρ H fz slot k r h
 simp only[evalOp]at h
 split at h
 ·rename_i n ag hs ha
  split at h
  ·rename_i id off hx
   split at h
   ·rename_i cs ho
    split at h
    ·rename_i v hl
     refine⟨_,_,h,fun R' k'=>by simp only[evalOp,hs,ha,hx,ho,hl],Ac fun w F m ρc o hop hty hi hr => ?_⟩
     obtain⟨b,c,vs,T',e1,e2,e3,e4,e5⟩:=SC hi ho (hx▸hr x)
     obtain⟨u,h1,h2⟩:=DP (P:=P) hs ha hl (Em e4 off) (ad:=⟨b,off,none⟩) (fun u hu=>e5 u (Aqv hu)) (fun j u hu=>by
      rw[DE,Dr e3]
      rw[AqR]at hu
      simpa using hu)
     exact⟨u,by simp[execOp,hop,Instr.loadAt,e2,Instr.sureAddr,h1],h2⟩
    ·cases h
   ·cases h
  ·rename_i cs hx
   split at h
   ·rename_i v hl
    refine⟨_,_,h,fun R' k'=>by simp only[evalOp,hs,ha,hx,hl],Ac fun w F m ρc o hop hty hi hr => ?_⟩
    have hrx:=hr x
    rw[hx]at hrx
    unfold Rep at hrx
    obtain⟨ad,us,e1,e2,e3,e4,e5⟩:=hrx
    obtain⟨u,h1,h2⟩:=DP (P:=P) hs ha hl e3 (ad:=ad) e4 e5
    exact⟨u,by simp[execOp,hop,Instr.loadAt,e1,Instr.sureAddr,h1],h2⟩
   ·cases h
  ·rename_i id i sub hx
   split at h
   ·rename_i T' t xs ho
    split at h
    ·rename_i v hl
     refine⟨_,_,h,fun R' k'=>by simp only[evalOp,hs,ha,hx,ho,hl],Ac fun w F m ρc o hop hty hi hr => ?_⟩
     obtain⟨b,cap,vs,row,e1,e2,e3,e4,e5,e6,e7,e8,e9,e10⟩:=LR hi ho (hx▸hr x)
     have hk:=fun(x:t.den) cs (h:Dat w F t x cs)=>Dat.length t h
     have hget:xs[i]? = some (AY xs i t.zero):=by
      unfold AY
      rw[ApO e3,ApP,ApO e3];rfl
     have hd:=ABY hk e8 hget
     have hre:=Hs (m:=m) (H:=H) t hd
     obtain⟨u,h1,h2⟩:=DP (P:=P) hs ha hl (Em hre sub) (ad:=⟨b,i*t.size+sub,none⟩) (fun u hu=>Dat.IV t hd u (Aqv hu)) (fun j u hu=>by
      rw[DE,Dr e4]
      rw[AqR,AqK]at hu
      split at hu
      ·rw[AqR]at hu
       have:=Cj e9 hu
       rw[← this];congr 1;omega
      ·cases hu)
     exact⟨u,by simp[execOp,hop,Instr.loadAt,e2,Instr.sureAddr,h1],h2⟩
    ·cases h
   ·rename_i T' tgt is ho
    split at h
    ·rename_i hc
     refine⟨_,_,h,fun R' k'=>by simp only[evalOp,hs,ha,hx,ho,hc],Ac fun w F m ρc o hop hty hi hr => ?_⟩
     simp only[ApU,ArE,Aq8]at hc
     obtain⟨rfl,rfl,rfl⟩:=hc
     have hrx:=hr x
     rw[hx]at hrx
     unfold Rep Dt at hrx
     rw[ho]at hrx
     obtain⟨hlt,b,c,hm,e2⟩:=hrx
     rw[Aqp]at e2
     have hob:=hi.obj id _ ho
     rw[hm]at hob
     obtain⟨vs,us,o1,o2,o3,o4,o5,o6,o7⟩:=hob
     have hget:(FY tgt is)[i]? = some (.eptr tgt (AN (AY is i 0)) 0):=by
      unfold AY AN FY
      rw[Ap0,ApO hlt,ApP,ApO hlt];rfl
     obtain⟨u,hu,hru⟩:=CL o5 hget
     have hv:=Cj o7 hu
     obtain⟨u',h1,h2⟩:=DP (P:=P) (T:=T) (n:=1) (ag:=false) (cs:=[.eptr tgt (AN (AY is i 0)) 0]) (us:=[u]) (v:=.eptr tgt (AN (AY is i 0)) 0) hs ha rfl (by unfold Ag;exact⟨_,_,rfl,hru,by unfold Ag;rfl⟩) (ad:=⟨b,i,none⟩) (fun x hx=>by
      rw[Ap4]at hx;subst hx;exact o6 _ (Apb hu)) (fun j x hj=>by
      cases j with
      |zero=>
       rw[DE,Dr o1]
       simp only[Aqd,ApN]at hj
       subst hj
       exact hv
      |succ j=>simp at hj)
     exact⟨u',by simp[execOp,hop,Instr.loadAt,e2,Instr.sureAddr,h1],h2⟩
    ·cases h
   ·cases h
  ·cases h
 ·cases h
theorem MQ{w:World}{b:Nat}{cs:Array Value}:(w.setRow b cs).os=w.os∧(w.setRow b cs).tape=w.tape∧(w.setRow b cs).output=w.output∧(w.setRow b cs).heap.size=w.heap.size∧∀ k,k≠b→(w.setRow b cs).heap[k]? = w.heap[k]? :=
 ⟨rfl,rfl,rfl,setRow_size w b cs,fun k hk=>setRow_other w b k cs hk⟩
theorem Adi{H:List Ob}{fz:List Bool}{id:Nat}{cs:List AV}(h:H[id]? = some (.box cs)):owned H fz id:=by unfold owned;rw[h];trivial
theorem CF{H:List Ob}{fz:List Bool}{id:Nat}{T:TypeId}{t:Ty}{xs:List t.den}(h:H[id]? = some (.arr T t xs))(hf:Ap fz id=true):owned H fz id:=by
 unfold owned;rw[h];simpa [Ap]using hf
theorem Eg{H:List Ob}{fz:List Bool}{id:Nat}{a b:Ty}{es:List (a.den×b.den)}(h:H[id]? = some (.map a b es)):owned H fz id:=by unfold owned;rw[h];trivial
theorem AOg{w:World}{F:Nat→Prop}{m:Mp}{H:List Ob}{fz:List Bool}(hi:HI w F m H fz){id:Nat}{T:TypeId}{t:Ty}{xs:List t.den}(ho:H[id]? = some (.arr T t xs))(hf:Ap fz id=true)
  {b cap:Nat} (hm:m id=some (b,cap)) {i:Nat} (hlt:i<xs.length) {y:t.den} {ds:List Value} (hy:Dat w F t y ds) {vs:Array Value} {row:List Value}
  (e1:w.heap[b]? = some (.cells vs T (0,0))) (e2:xs.length≤cap) (e3:cap≤maxLen) (e4:vs.size=cap*t.size) (e7:rows (Dat w F t) xs row) (e8:vs.toList.take row.length=row) (h0:0<t.size) :
  Av w F m H fz (w.setRow b (vs.toList.take (i*t.size)++ds++vs.toList.drop (i*t.size+t.size)).toArray) F m (H.set id (.arr T t (Az xs i y))) fz:=by
 obtain⟨r1,r2,r3,r4,r5⟩:=MQ (w:=w) (b:=b) (cs:=(vs.toList.take (i*t.size)++ds++vs.toList.drop (i*t.size+t.size)).toArray)
 have hk:=fun(x:t.den) cs (h:Dat w F t x cs)=>Dat.length t h
 have hlen:=A7 hk e7
 have hdl:=hk _ _ hy
 have hle:i*t.size+t.size≤xs.length*t.size:=by
  have:(i+1)*t.size≤xs.length*t.size:=AqC _ hlt
  rwa [AqW,Aq4]at this
 have hle2:xs.length*t.size≤cap*t.size:=AqC _ e2
 have hvl:vs.toList.length=cap*t.size:=by rw[Apl,e4]
 refine Av.set hi (CF ho hf) hm ho ⟨rfl,by simp[Az]⟩ r1 r2 r3 r4 r5 fun hmono => ?_
 refine⟨h0,?_⟩
 rw[hm]
 refine⟨_,row.take (i*t.size)++ds++row.drop (i*t.size+t.size),setRow_heap w b vs _ T _ e1,by simpa [Az]using e2,e3,?_,?_,?_⟩
 ·simp only[Aqg,ApS,Api,AqS,hvl,hdl];omega
 ·have hcell:∀ a:Addr,F a.block→(w.setRow b (vs.toList.take (i*t.size)++ds++vs.toList.drop (i*t.size+t.size)).toArray).cell? a=w.cell? a:=fun a ha=>
   cell_setRow_other w b _ a (by rintro rfl;exact hi.off id _ cap (CF ho hf) hm ha)
  exact BN (fun x _ cs hx=>hx.mono hcell (fun _ h=>h) t) (AQe hk e7 hlt hy)
 ·have hrl:(row.take (i*t.size)++ds++row.drop (i*t.size+t.size)).length=row.length:=by
   simp only[ApS,Api,AqS,hdl];omega
  rw[hrl]
  show List.take row.length (vs.toList.take (i*t.size)++ds++vs.toList.drop (i*t.size+t.size))=_
  have h1:row.take (i*t.size)=vs.toList.take (i*t.size):=by
   rw[← e8,Arf,Aqn (by omega)]
  have h2:row.drop (i*t.size+t.size)=(vs.toList.drop (i*t.size+t.size)).take (row.length-(i*t.size+t.size)):=by
   conv=>lhs;rw[← e8]
   rw[List.drop_take]
  rw[h1,h2,ArR,AqJ (by simp only[ApS,Api,hvl,hdl];omega)]
  congr 2
  simp only[ApS,Api,hvl,hdl];omega
theorem nul?_some{t e:Ty}(h:t.nul? = some e):t = .nul e:=by
 cases t<;>simp only[Ty.nul?]at h<;>first|(cases h;done)|skip
 cases h;rfl
theorem AQf{w:World}{F:Nat→Prop}{e:Ty}:∀ {xs:List Unit} {cs:List Value},rows (Dat w F (.nul e)) xs cs→rows (Dat w F (.slice e)) (D3 xs.length []) cs:=by
 intro xs
 induction xs with
 |nil=>exact fun h=>h
 |cons x xs ih=>
  rintro cs ⟨c1,c2,rfl,h1,h2⟩
  cases h1
  exact⟨_,c2,rfl,⟨none,0,rfl,ApY _,fun h=>absurd rfl h⟩,ih h2⟩
theorem AnY{w:World}{F:Nat→Prop}{m:Mp}{H:List Ob}{fz:List Bool}(hi:HI w F m H fz){id:Nat}{T:TypeId}{e:Ty}{xs:List Unit}(ho:H[id]? = some (.arr T (.nul e) xs))(hf:Ap fz id=true)
  {b cap:Nat} (hm:m id=some (b,cap)) {vs:Array Value} {row:List Value}
  (e1:w.heap[b]? = some (.cells vs T (0,0))) (e2:xs.length≤cap) (e3:cap≤maxLen) (e4:vs.size=cap*1) (e7:rows (Dat w F (.nul e)) xs row) (e8:vs.toList.take row.length=row) :
  Av w F m H fz w F m (H.set id (.arr T (.slice e) (D3 xs.length []))) fz:=by
 refine Av.set hi (CF ho hf) hm ho ⟨rfl,by simp[D3]⟩ rfl rfl rfl rfl (fun _ _=>rfl) fun _=>⟨Nat.one_pos,?_⟩
 rw[hm]
 exact⟨vs,row,e1,by simpa [D3]using e2,e3,e4,AQf e7,e8⟩
theorem AT0(T:TypeId)(x y:Operand):Claim P E (.store T x y):=by
 intro R ty ρ H fz slot k r h
 simp only[evalOp]at h
 split at h
 ·rename_i n vs hs hv
  split at h
  ·cases h
  ·rename_i hd
   simp only[ApQ]at hd
   split at h
   ·rename_i id off hx
    split at h
    ·rename_i cs ho
     split at h
     ·rename_i cs' hp
      refine⟨_,_,h,fun R' k'=>by simp only[evalOp,hs,hv,hd,Apn,hx,ho,hp],Fv fun w F m ρc o hop hty hi hr => ?_⟩
      obtain⟨b,c,us,T',e1,e2,e3,e4,e5⟩:=SC hi ho (hx▸hr x)
      have hry:=cells?_ok hv (hr y)
      have h1y:=cells?_one hv (hr y)
      obtain⟨hle,hr'⟩:=I8 hp e4 hry
      have hyl:=Aq hry
      have hul:=Aq e4
      have hsz:(ρc y).cells.size=n:=by rw[← Apl,hyl,hd]
      have hst:=D9 (P:=P) hs e3 (off:=off) hsz h1y (by rw[← Apl,hul];omega)
      obtain⟨r1,r2,r3,r4,r5⟩:=MQ (w:=w) (b:=b) (cs:=(us.toList.take off++(ρc y).cells.toList++us.toList.drop (off+n)).toArray)
      have hg:=Av.set hi (Adi ho) e1 ho (o':=.box cs') trivial r1 r2 r3 r4 r5 fun hmono=>⟨b,c,_,T',e1,setRow_heap w b us _ T' _ e3,?_,?_⟩
      ·exact⟨_,F,m,by simp[execOp,hop,Instr.storeAt,e2,Instr.sureAddr,hst],hg⟩
      ·rw[hd]at hr'
       exact DI (Aq hr') fun i c v hc hv=>by
        obtain⟨v',hv',hr''⟩:=CL hr' hc
        have:(us.toList.take off++(ρc y).cells.toList++us.toList.drop (off+n))[i]? = some v:=hv
        rw[this]at hv';cases hv'
        exact hmono hr''
      ·intro u hu
       have hu:u∈us.toList.take off++(ρc y).cells.toList++us.toList.drop (off+n):=hu
       simp only[ApR]at hu
       rcases hu with(hu|hu)|hu
       ·exact e5 u (Arq hu)
       ·exact h1y u hu
       ·exact e5 u (Aqv hu)
     ·cases h
    ·cases h
   ·rename_i id i sub hx
    split at h
    ·rename_i T' t xs ho
     split at h
     ·rename_i e hnul
      have htn:=nul?_some hnul
      subst htn
      split at h
      ·rename_i hc
       split at h
       ·rename_i z fr hz
        split at h
        ·rename_i hf
         refine⟨_,_,h,fun R' k'=>by simp only[evalOp,hs,hv,hd,Apn,hx,ho,hnul,hc,hz,hf],Fv fun w F m ρc o hop hty hi hr => ?_⟩
         simp only[ApU,ArE]at hc
         obtain⟨rfl,rfl⟩:=hc
         have hgf:=Av.freeze hi fr
         have hrx:=hgf.1.rep hi (hx▸hr x)
         obtain⟨b,cap,us,row,e1,e2,e3,e4,e5,e6,e7,e8,e9,e10⟩:=LR hgf.2 ho hrx
         have hg0:=AnY hgf.2 ho hf e1 e4 e5 e6 e7 e8 e9
         have hyd:=QP (FD hi hz (hr y))
         have hyl:=Dat.length (.slice e) hyd
         have hst:=D9 (P:=P) hs e4 (off:=i*1) (u:=ρc y) (by rw[← Apl,hyl];rfl) (cells?_one hv (hr y)) (by
          rw[e7]
          have:(i+1)*1≤cap*1:=AqC _ (by omega)
          rwa [AqW,Aq4]at this)
         have hlt:=At ho
         have hg:=AOg (t:=.slice e) hg0.2 (BM hlt) hf e1 (by simpa [D3]using e3) (hg0.1.dat hgf.2 (t:=.slice e) hyd) e4 (by simpa [D3]using e5) e6 e7 (AQf e8) e9 e10
         rw[List.set_set]at hg
         have e2':ρc x = .pointer (some ⟨b,i*(Ty.slice e).size,none⟩):=e2
         refine⟨_,_,m,(?_:(execOp ρc o).run P w = .ok _ _),(hgf.trans hg0).trans hg⟩
         have hst':(storeVar T ⟨b,i*(Ty.slice e).size,none⟩ (ρc y)).run P w = .ok () (w.setRow b (us.toList.take (i*(Ty.slice e).size)++(ρc y).cells.toList++us.toList.drop (i*(Ty.slice e).size+(Ty.slice e).size)).toArray):=hst
         simp[execOp,hop,Instr.storeAt,e2',Instr.sureAddr,hst']
        ·cases h
       ·cases h
      ·cases h
     rename_i hnul
     split at h
     ·rename_i hc
      split at h
      ·rename_i z fr hz
       split at h
       ·rename_i hf
        refine⟨_,_,h,fun R' k'=>by simp only[evalOp,hs,hv,hd,Apn,hx,ho,hnul,hc,hz,hf],Fv fun w F m ρc o hop hty hi hr => ?_⟩
        simp only[ApU,ArE]at hc
        obtain⟨rfl,rfl⟩:=hc
        have hgf:=Av.freeze hi fr
        have hrx:=hgf.1.rep hi (hx▸hr x)
        obtain⟨b,cap,us,row,e1,e2,e3,e4,e5,e6,e7,e8,e9,e10⟩:=LR hgf.2 ho hrx
        have hyd:=QP (FD hi hz (hr y))
        have hyl:=Dat.length t hyd
        have hst:=D9 (P:=P) hs e4 (off:=i*t.size) (u:=ρc y) (by rw[← Apl,hyl]) (cells?_one hv (hr y)) (by
         rw[e7]
         have:(i+1)*t.size≤cap*t.size:=AqC _ (by omega)
         rwa [AqW,Aq4]at this)
        have hg:=AOg hgf.2 ho hf e1 e3 hyd e4 e5 e6 e7 e8 e9 e10
        exact⟨_,_,m,by simp[execOp,hop,Instr.storeAt,e2,Instr.sureAddr,hst],hgf.trans hg⟩
       ·cases h
      ·cases h
     ·rename_i hc
      split at h
      ·cases h
      ·rename_i cs' hp
       split at h
       ·rename_i z fr hz
        split at h
        ·rename_i hf
         refine⟨_,_,h,fun R' k'=>by simp only[evalOp,hs,hv,hd,Apn,hx,ho,hnul,hc,hp,hz,hf],Fv fun w F m ρc o hop hty hi hr => ?_⟩
         have hgf:=Av.freeze hi fr
         obtain⟨b,cap,us,row,e1,e2,e3,e4,e5,e6,e7,e8,e9,e10⟩:=LR hi ho (hx▸hr x)
         have hk:=fun(x:t.den) cs (h:Dat w F t x cs)=>Dat.length t h
         have hget:xs[i]? = some (AY xs i t.zero):=by
          unfold AY
          rw[ApO e3,ApP,ApO e3];rfl
         have hdi:=ABY hk e8 hget
         have hre:=Hs (m:=m) (H:=H) t hdi
         have hry:=cells?_ok hv (hr y)
         have h1y:=cells?_one hv (hr y)
         obtain⟨hle,hr'⟩:=I8 hp hre hry
         have hyl:=Aq hry
         have hel:=Aq hre
         have hrl:=A7 hk e8
         have hcl:=hk _ _ hdi
         have hi1:i*t.size+t.size≤xs.length*t.size:=by
          have:(i+1)*t.size≤xs.length*t.size:=AqC _ e3
          rwa [AqW,Aq4]at this
         have hi2:xs.length*t.size≤cap*t.size:=AqC _ e5
         rw[hd]at hle hr'
         have hst:=D9 (P:=P) hs e4 (off:=i*t.size+sub) (u:=ρc y) (by rw[← Apl,hyl,hd]) h1y (by omega)
         obtain⟨u1,u2,q1,q2,q3⟩:=ADc hi t hz hr'
         unfold Ag at q3;subst q3
         rw[Aqa]at q1;subst q1
         have hg:=AOg hgf.2 ho hf e1 e3 q2 e4 e5 e6 e7 (BN (fun x _ cs hx=>hx.frz) e8) e9 e10
         have hX:(row.drop (i*t.size)).take t.size=(us.toList.drop (i*t.size)).take t.size:=by
          conv=>lhs;rw[← e9]
          rw[List.drop_take,Arf,Aqn (by omega)]
         have hEq:us.toList.take (i*t.size)++(((row.drop (i*t.size)).take t.size).take sub++(ρc y).cells.toList++((row.drop (i*t.size)).take t.size).drop (sub+n))++us.toList.drop (i*t.size+t.size) =
           us.toList.take (i*t.size+sub)++(ρc y).cells.toList++us.toList.drop (i*t.size+sub+n):=by
          rw[hX,List.take_add,Arf,Aqn (by omega)]
          have:((us.toList.drop (i*t.size)).take t.size).drop (sub+n)++us.toList.drop (i*t.size+t.size)=us.toList.drop (i*t.size+sub+n):=by
           rw[← ArF (i:=t.size),ArQ,← ArF (i:=sub+n)]
           conv=>rhs;rw[← AqX t.size (us.toList.drop (i*t.size))]
           rw[List.drop_append_of_le_length (by rw[Api,AqS,Apl];omega)]
          rw[← this];simp
         rw[hEq]at hg
         exact⟨_,_,m,by simp[execOp,hop,Instr.storeAt,e2,Instr.sureAddr,hst],hgf.trans hg⟩
        ·cases h
       ·cases h
    ·cases h
   ·cases h
 ·cases h
theorem Ki{H:List Ob}{id:Nat}(h:IW H id=true):∃ cs,H[id]? = some (.box cs):=by
 unfold IW at h
 split at h
 ·exact⟨_,by assumption⟩
 ·cases h
theorem Dl{H:List Ob}{id:Nat}(h:Cl H id=true):∃ T t xs,H[id]? = some (.arr T t xs):=by
 unfold Cl at h
 split at h
 ·exact⟨_,_,_,by assumption⟩
 ·cases h
theorem AE6(x:Operand):Claim P E (.nilCheck x):=by
 intro R ty ρ H fz slot k r h
 simp only[evalOp]at h
 split at h
 ·rename_i id off hx
  split at h
  ·rename_i hl
   obtain⟨cs,ho⟩:=Ki hl
   refine⟨_,_,h,fun R' k'=>by simp only[evalOp,hx,hl],Ac fun w F m ρc o hop hty hi hr=>⟨ρc x,?_,hx▸hr x⟩⟩
   obtain⟨b,c,vs,T,_,e2,_⟩:=SC hi ho (hx▸hr x)
   simp[execOp,hop,e2]
  ·cases h
 ·rename_i id i s hx
  split at h
  ·rename_i hl
   obtain⟨T,t,xs,ho⟩:=Dl hl
   refine⟨_,_,h,fun R' k'=>by simp only[evalOp,hx,hl],Ac fun w F m ρc o hop hty hi hr=>⟨ρc x,?_,hx▸hr x⟩⟩
   obtain⟨b,c,vs,T,_,e2,_⟩:=LR hi ho (hx▸hr x)
   simp[execOp,hop,e2]
  ·cases h
 ·rename_i cs hx
  refine⟨_,_,h,fun R' k'=>by simp only[evalOp,hx],Ac fun w F m ρc o hop hty hi hr=>⟨ρc x,?_,hx▸hr x⟩⟩
  have hrx:=hr x
  rw[hx]at hrx
  unfold Rep at hrx
  obtain⟨ad,us,e1,_⟩:=hrx
  simp[execOp,hop,e1]
 ·rename_i f cs hx
  refine⟨_,_,h,fun R' k'=>by simp only[evalOp,hx],Ac fun w F m ρc o hop hty hi hr=>⟨ρc x,?_,hx▸hr x⟩⟩
  have hrx:=hr x
  rw[hx]at hrx
  unfold Rep at hrx
  obtain⟨us,e1,_⟩:=hrx
  simp[execOp,hop,e1]
 ·rename_i f cs hx
  refine⟨_,_,h,fun R' k'=>by simp only[evalOp,hx],Ac fun w F m ρc o hop hty hi hr=>⟨ρc x,?_,hx▸hr x⟩⟩
  have hrx:=hr x
  rw[hx]at hrx
  unfold Rep at hrx
  obtain⟨us,e1,_⟩:=hrx
  simp[execOp,hop,e1]
 ·cases h
end
end Go.Pev
end
section
namespace Go.Pev
open Go.RowKit
section
variable {P:Program} {E:Env}
theorem Gg(op:BinOp)(t:TypeId)(x y:Operand)(w:World)(k:IntKind)(n:Int)(v:Value):(eqGuard op t x y (.int k n) v).run P w = .ok () w:=by
 rw[eqGuard_at_int];rfl
theorem Rl(op:BinOp)(t:TypeId)(x y:Operand)(w:World)(b:Bool)(v:Value):(eqGuard op t x y (.bool b) v).run P w = .ok () w:=by
 rw[eqGuard_at_bool];rfl
theorem Rk(op:BinOp)(t:TypeId)(x y:Operand)(w:World)(b:ByteArray)(v:Value):(eqGuard op t x y (.string b) v).run P w = .ok () w:=by
 rw[eqGuard_at_string];rfl
theorem AUI(s s':ByteArray):Aln (bytesOf s) (bytesOf s')=(s.toList==s'.toList):=by
 rw[Aqo]
 unfold Aln
 rw[ArE,ArE,ByteArray.toList_eq,ByteArray.toList_eq]
 unfold bytesOf
 constructor
 ·intro h
  exact(List.map_inj_right (fun a b e=>UInt8.toNat_inj.1 (Int.ofNat.inj e))).1 h
 ·intro h;rw[h]
theorem AVy{op:BinOp}{j:IntKind}{a b:Int}{v:AV}(h:AZv op j a b=some v)(t:TypeId)(w:World):
  ∃ u,(binOp op t (.int j a) (.int j b)).run P w = .ok u w∧∀ F m H,Rep w F m H v u:=by
 unfold AZv at h
 simp only[Af,An,CN]at h
 cases op with
 |add=>simp only[ApN]at h;subst h;exact⟨.int j (j.wrap (a+b)),by simp[binOp,Op.intArith],fun _ _ _=>Ax _ _⟩
 |sub=>simp only[ApN]at h;subst h;exact⟨.int j (j.wrap (a-b)),by simp[binOp,Op.intArith],fun _ _ _=>Ax _ _⟩
 |mul=>simp only[ApN]at h;subst h;exact⟨.int j (j.wrap (a*b)),by simp[binOp,Op.intArith],fun _ _ _=>Ax _ _⟩
 |and=>simp only[ApN]at h;subst h;exact⟨.int j (j.wrap (BitVec.ofInt j.bits a &&& BitVec.ofInt j.bits b).toNat),by simp only[binOp,ne_eq,Aqu,Apf];rfl,fun _ _ _=>Ax _ _⟩
 |or=>simp only[ApN]at h;subst h;exact⟨.int j (j.wrap (BitVec.ofInt j.bits a ||| BitVec.ofInt j.bits b).toNat),by simp only[binOp,ne_eq,Aqu,Apf];rfl,fun _ _ _=>Ax _ _⟩
 |xor=>simp only[ApN]at h;subst h;exact⟨.int j (j.wrap (BitVec.ofInt j.bits a ^^^ BitVec.ofInt j.bits b).toNat),by simp only[binOp,ne_eq,Aqu,Apf];rfl,fun _ _ _=>Ax _ _⟩
 |andNot=>simp only[ApN]at h;subst h;exact⟨.int j (j.wrap (BitVec.ofInt j.bits a &&& ~~~(BitVec.ofInt j.bits b)).toNat),by simp only[binOp,ne_eq,Aqu,Apf];rfl,fun _ _ _=>Ax _ _⟩
 |eql=>simp only[ApN]at h;subst h;exact⟨.bool (a==b),by simp only[binOp,ne_eq,Aqu,Apf];rfl,fun _ _ _=>BY _⟩
 |neq=>simp only[ApN]at h;subst h;exact⟨.bool (a != b),by simp only[binOp,ne_eq,Aqu,Apf];rfl,fun _ _ _=>BY _⟩
 |lss=>simp only[ApN]at h;subst h;exact⟨.bool (decide (a<b)),by simp only[binOp,ne_eq,Aqu,Apf];rfl,fun _ _ _=>BY _⟩
 |leq=>simp only[ApN]at h;subst h;exact⟨.bool (decide (a≤b)),by simp only[binOp,ne_eq,Aqu,Apf];rfl,fun _ _ _=>BY _⟩
 |gtr=>simp only[ApN]at h;subst h;exact⟨.bool (decide (a > b)),by simp only[binOp,ne_eq,Aqu,Apf];rfl,fun _ _ _=>BY _⟩
 |geq=>simp only[ApN]at h;subst h;exact⟨.bool (decide (a≥b)),by simp only[binOp,ne_eq,Aqu,Apf];rfl,fun _ _ _=>BY _⟩
 |_=>cases h
theorem SH{w:World}{F:Nat→Prop}{m:Mp}{H:List Ob}{v:AV}(h:YN v=true){u:Value}(hr:Rep w F m H v u):∃ vs,u = .agg vs:=by
 cases v with
 |agg cs=>unfold Rep at hr;obtain⟨vs,e,_⟩:=hr;exact⟨vs,e⟩
 |data t d=>
  have h:t.isAgg=true:=h
  unfold Rep Bj at hr
  rw[ApZ h]at hr
  obtain⟨vs,e,_⟩:=hr;exact⟨vs,e⟩
 |_=>simp[YN]at h
theorem AGZ{T:TypeId}{n:List Bool}(h:structEq P T=some n):∃ fs:Array Field,P.underlying T=some (.struct fs)∧P.eqGuardType P.depth T=false∧P.stoodInHeld T=false∧DX P fs.toList 0=true∧n=fs.toList.map fun f=>Hk P f.type:=by
 unfold structEq at h
 split at h
 ·rename_i fs hu
  split at h
  ·rename_i hok
   cases h
   simp only[ApU,Aq8]at hok
   exact⟨fs,hu,hok.1,hok.2.1,hok.2.2,rfl⟩
  ·cases h
 ·cases h
theorem Bq{t:TypeId}(h:MR P t=true):(∃ k,P.underlying t=some (.int k)∧Hk P t=true)∨(P.underlying t=some .bool∧Hk P t=false):=by
 unfold MR at h
 split at h
 ·rename_i k hk;exact .inl ⟨k,hk,by simp[Hk,hk]⟩
 ·rename_i hk;exact .inr ⟨hk,by simp[Hk,hk]⟩
 ·cases h
theorem Mu{k:Bool}{ks:List Bool}{c e:AV}{cs ds:List AV}{r:Bool}(h:BE (k::ks) (c::cs) (e::ds)=some r):
  (∃ j a b r',k=true∧c = .data (.int j) a∧e = .data (.int j) b∧BE ks cs ds=some r'∧r=(ieq a b&&r'))∨(∃ a b r',k=false∧c = .data .bool a∧e = .data .bool b∧BE ks cs ds=some r'∧r=((a==b)&&r')):=by
 unfold BE at h
 split at h
 ·rename_i h1;cases h1
 ·rename_i h1 h2 h3
  cases h1;cases h2;cases h3
  split at h
  ·rename_i r' hj h2
   simp only[ApQ]at hj
   subst hj
   cases h
   exact .inl ⟨_,_,_,_,rfl,rfl,rfl,h2,rfl⟩
  ·cases h
 ·rename_i h1 h2 h3
  cases h1;cases h2;cases h3
  split at h
  ·rename_i r' h2
   cases h
   exact .inr ⟨_,_,_,rfl,rfl,rfl,h2,rfl⟩
  ·cases h
 ·cases h
theorem Rm{w:World}{F:Nat→Prop}{m:Mp}{H:List Ob}(d:Nat)(xs ys:Array Value):∀ (fs:List Field) (i:Nat) (cs ds:List AV) (r:Bool),DX P fs i=true→Ag w F m H cs (xs.toList.drop i)→Ag w F m H ds (ys.toList.drop i)→BE (fs.map fun f=>Hk P f.type) cs ds=some r →
  (Op.eqFields (d+1) xs ys fs).run P w = .ok r w:=by
 intro fs
 induction fs with
 |nil=>
  intro i cs ds r hok hc hd he
  cases cs with
  |cons c cs=>simp[BE]at he
  |nil=>
   cases ds with
   |cons c cs=>simp[BE]at he
   |nil=>simp only[ArB,BE,ApN]at he;subst he;simp[Op.eqFields]
 |cons f fs ih=>
  intro i cs ds r hok hc hd he
  rw[Ap2]at he
  cases cs with
  |nil=>cases hf:Hk P f.type<;>rw[hf]at he<;>simp[BE]at he
  |cons c cs=>
   cases ds with
   |nil=>cases hf:Hk P f.type<;>rw[hf]at he<;>simp[BE]at he
   |cons e ds=>
    simp only[DX,ApU,bne_iff_ne,ApQ]at hok
    obtain⟨hn,ho,hsc,hok⟩:=hok
    unfold Ag at hc hd
    obtain⟨v,vs,e1,hv,hvs⟩:=hc
    obtain⟨u,us,e2,hu,hus⟩:=hd
    have g1:xs[i]? = some v:=by
     have:=Aqy (·[0]?) e1
     simpa using this
    have g2:ys[i]? = some u:=by
     have:=Aqy (·[0]?) e2
     simpa using this
    have n1:xs.toList.drop (i+1)=vs:=by
     have:=Aqy (List.drop 1) e1
     simpa only[ArF,AsN,ArX]using this
    have n2:ys.toList.drop (i+1)=us:=by
     have:=Aqy (List.drop 1) e2
     simpa only[ArF,AsN,ArX]using this
    have hag:D5 P f.type=some false:=by
     rcases Bq hsc with⟨k,hk,_⟩|⟨hk,_⟩<;>simp[D5,hk]
    have p1:(part f.type xs f.offset).run P w = .ok v w:=by
     rw[ho];simp[part,CQ hag,g1]
    have p2:(part f.type ys f.offset).run P w = .ok u w:=by
     rw[ho];simp[part,CQ hag,g2]
    have step:∀ (q r':Bool),(Op.equalIn (d+1) f.type v u).run P w = .ok q w→BE (fs.map fun f=>Hk P f.type) cs ds=some r'→(Op.eqFields (d+1) xs ys (f::fs)).run P w = .ok (q&&r') w:=by
     intro q r' h1 h2
     have h3:=ih (i+1) cs ds r' hok (by rw[n1];exact hvs) (by rw[n2];exact hus) h2
     simp only[Op.eqFields,hn,ne_eq,not_false_eq_true,Ap6,Sem.run_bind,p1,Result.andThen_ok,p2,h1,Sem.run_ite]
     cases q
     ·simp
     ·simpa using h3
    rcases Mu he with⟨j,a,b,r',hk,rfl,rfl,h2,rfl⟩|⟨a,b,r',hk,rfl,rfl,h2,rfl⟩
    ·have v1:=BD hv
     have v2:=BD hu
     subst v1 v2
     rcases Bq hsc with⟨k,hk1,_⟩|⟨_,hk2⟩
     ·rw[CN]
      exact step _ _ (run_equalIn_int w d f.type j k a b hk1) h2
     ·rw[hk]at hk2;cases hk2
    ·have v1:=Cn hv
     have v2:=Cn hu
     subst v1 v2
     rcases Bq hsc with⟨k,_,hk2⟩|⟨hk1,_⟩
     ·rw[hk]at hk2;cases hk2
     ·exact step _ _ (run_equalIn_bool' w d f.type a b hk1) h2
theorem ATM:∀ {ks ks':List Bool} {cs ds:List AV} {r:Bool},BE (ks++ks') cs ds=some r →
  ∃ cs1 cs2 ds1 ds2 r1 r2,cs=cs1++cs2∧ds=ds1++ds2∧cs1.length=ks.length∧ds1.length=ks.length∧BE ks cs1 ds1=some r1∧BE ks' cs2 ds2=some r2∧r=(r1&&r2):=by
 intro ks
 induction ks with
 |nil=>intro ks' cs ds r h;exact⟨[],cs,[],ds,true,r,rfl,rfl,rfl,rfl,rfl,h,by simp⟩
 |cons b ks ih=>
  intro ks' cs ds r h
  rw[Aps]at h
  cases cs with
  |nil=>cases b<;>simp[BE]at h
  |cons c cs=>
   cases ds with
   |nil=>cases b<;>simp[BE]at h
   |cons e ds=>
    rcases Mu h with⟨j,x,y,r',rfl,rfl,rfl,h2,rfl⟩|⟨x,y,r',rfl,rfl,rfl,h2,rfl⟩
    ·obtain⟨cs1,cs2,ds1,ds2,r1,r2,rfl,rfl,l1,l2,q1,q2,rfl⟩:=ih h2
     exact⟨_::cs1,cs2,_::ds1,ds2,(ieq x y&&r1),r2,rfl,rfl,by simp[l1],by simp[l2],by simp[BE,q1],q2,by rw[Bool.and_assoc]⟩
    ·obtain⟨cs1,cs2,ds1,ds2,r1,r2,rfl,rfl,l1,l2,q1,q2,rfl⟩:=ih h2
     exact⟨_::cs1,cs2,_::ds1,ds2,((x==y)&&r1),r2,rfl,rfl,by simp[l1],by simp[l2],by simp[BE,q1],q2,by rw[Bool.and_assoc]⟩
theorem AFn{w:World}{F:Nat→Prop}{m:Mp}{H:List Ob}:∀ {a b:List AV} {vs:List Value},Ag w F m H (a++b) vs→∃ v1 v2,vs=v1++v2∧Ag w F m H a v1∧Ag w F m H b v2:=by
 intro a
 induction a with
 |nil=>intro b vs h;exact⟨[],vs,rfl,by unfold Ag;rfl,h⟩
 |cons c a ih=>
  intro b vs h
  rw[Aps]at h
  unfold Ag at h
  obtain⟨v,vs',rfl,hv,h⟩:=h
  obtain⟨v1,v2,rfl,h1,h2⟩:=ih h
  exact⟨v::v1,v2,rfl,by unfold Ag;exact⟨v,v1,rfl,hv,h1⟩,h2⟩
theorem AYn{w:World}{F:Nat→Prop}{m:Mp}{H:List Ob}(d:Nat)(xs ys:Array Value):∀ (fs:List Field) (i:Nat) (n:List Bool) (cs ds:List AV) (r:Bool),Pk P fs i=some n→Ag w F m H cs (xs.toList.drop i)→Ag w F m H ds (ys.toList.drop i)→BE n cs ds=some r →
  (Op.eqFields (d+1+1) xs ys fs).run P w = .ok r w:=by
 intro fs
 induction fs with
 |nil=>
  intro i n cs ds r hok hc hd he
  cases hok
  cases cs with
  |cons c cs=>simp[BE]at he
  |nil=>
   cases ds with
   |cons c cs=>simp[BE]at he
   |nil=>simp only[BE,ApN]at he;subst he;simp[Op.eqFields]
 |cons f fs ih=>
  intro i n cs ds r hok hc hd he
  unfold Pk at hok
  split at hok
  ·cases hok
  rename_i hno
  simp only[ApU,bne_iff_ne,ApQ]at hno
  obtain⟨hn,ho⟩:=hno
  have go:∀ (v u:Value) (n1 n2:List Bool) (cs1 cs2 ds1 ds2:List AV) (q r':Bool) (j:Nat),Pk P fs (i+j)=some n2→Ag w F m H cs2 (xs.toList.drop (i+j))→Ag w F m H ds2 (ys.toList.drop (i+j))→BE n2 cs2 ds2=some r' →
    (part f.type xs f.offset).run P w = .ok v w→(part f.type ys f.offset).run P w = .ok u w→(Op.equalIn (d+1+1) f.type v u).run P w = .ok q w→(Op.eqFields (d+1+1) xs ys (f::fs)).run P w = .ok (q&&r') w:=by
   intro v u n1 n2 cs1 cs2 ds1 ds2 q r' j h1 h2 h3 h4 p1 p2 h5
   have h6:=ih (i+j) n2 cs2 ds2 r' h1 h2 h3 h4
   simp only[Op.eqFields,hn,ne_eq,not_false_eq_true,Ap6,Sem.run_bind,p1,Result.andThen_ok,p2,h5,Sem.run_ite]
   cases q
   ·simp
   ·simpa using h6
  split at hok
  ·rename_i hsc
   obtain⟨n2,h2,rfl⟩:=Ape.1 hok
   cases cs with
   |nil=>cases hf:Hk P f.type<;>rw[hf]at he<;>simp[BE]at he
   |cons c cs=>
    cases ds with
    |nil=>cases hf:Hk P f.type<;>rw[hf]at he<;>simp[BE]at he
    |cons e ds=>
     unfold Ag at hc hd
     obtain⟨v,vs,e1,hv,hvs⟩:=hc
     obtain⟨u,us,e2,hu,hus⟩:=hd
     have g1:xs[i]? = some v:=by
      have:=Aqy (·[0]?) e1
      simpa using this
     have g2:ys[i]? = some u:=by
      have:=Aqy (·[0]?) e2
      simpa using this
     have n1:xs.toList.drop (i+1)=vs:=by
      have:=Aqy (List.drop 1) e1
      simpa only[ArF,AsN,ArX]using this
     have n3:ys.toList.drop (i+1)=us:=by
      have:=Aqy (List.drop 1) e2
      simpa only[ArF,AsN,ArX]using this
     have hag:D5 P f.type=some false:=by
      rcases Bq hsc with⟨k,hk,_⟩|⟨hk,_⟩<;>simp[D5,hk]
     have p1:(part f.type xs f.offset).run P w = .ok v w:=by
      rw[ho];simp[part,CQ hag,g1]
     have p2:(part f.type ys f.offset).run P w = .ok u w:=by
      rw[ho];simp[part,CQ hag,g2]
     rcases Mu he with⟨j,a,b,r',hk,rfl,rfl,h4,rfl⟩|⟨a,b,r',hk,rfl,rfl,h4,rfl⟩
     ·have v1:=BD hv
      have v2:=BD hu
      subst v1 v2
      rcases Bq hsc with⟨k,hk1,_⟩|⟨_,hk2⟩
      ·rw[CN]
       exact go _ _ [] n2 [] cs [] ds _ _ 1 h2 (by rw[n1];exact hvs) (by rw[n3];exact hus) h4 p1 p2 (run_equalIn_int w _ f.type j k a b hk1)
      ·rw[hk]at hk2;cases hk2
     ·have v1:=Cn hv
      have v2:=Cn hu
      subst v1 v2
      rcases Bq hsc with⟨k,_,hk2⟩|⟨hk1,_⟩
      ·rw[hk]at hk2;cases hk2
      ·exact go _ _ [] n2 [] cs [] ds _ _ 1 h2 (by rw[n1];exact hvs) (by rw[n3];exact hus) h4 p1 p2 (run_equalIn_bool' w _ f.type a b hk1)
  ·split at hok
   ·rename_i gs hu
    split at hok
    ·rename_i hg
     simp only[ApU,Aq8,ApQ]at hg
     obtain⟨hst,hge,hsz⟩:=hg
     obtain⟨n2,h2,rfl⟩:=Ape.1 hok
     obtain⟨cs1,cs2,ds1,ds2,r1,r2,rfl,rfl,l1,l2,q1,q2,rfl⟩:=ATM he
     obtain⟨x1,x2,ex,hx1,hx2⟩:=AFn hc
     obtain⟨y1,y2,ey,hy1,hy2⟩:=AFn hd
     have lx:=Aq hx1
     have ly:=Aq hy1
     have lg:(gs.toList.map fun g=>Hk P g.type).length=gs.size:=by simp
     rw[lg]at l1 l2
     have hag:D5 P f.type=some true:=by simp[D5,hu]
     have hfo:P.fieldsOf f.type=gs:=by simp[Program.fieldsOf,hu]
     have tk:∀ (zs:Array Value) (z1 z2:List Value),zs.toList.drop i=z1++z2→z1.length=gs.size→(zs.extract i (i+gs.size)).toList=z1∧zs.toList.drop (i+gs.size)=z2:=by
      intro zs z1 z2 hz hl
      constructor
      ·rw[Array.toList_extract,AsR,hz,Asa,← hl,List.take_left']
       rfl
      ·rw[← ArF,hz,← hl,List.drop_left']
       rfl
     obtain⟨t1,t2⟩:=tk xs x1 x2 ex (by omega)
     obtain⟨t3,t4⟩:=tk ys y1 y2 ey (by omega)
     have hso:(sizeOf f.type).run P w = .ok gs.size w:=by
      obtain⟨ii,hi1,hi2⟩:=Ape.1 hsz
      rw[run_sizeOf hi1,hi2]
     have p1:(part f.type xs f.offset).run P w = .ok (.agg (xs.extract i (i+gs.size))) w:=by
      rw[ho];simp[part,CQ hag,hso]
     have p2:(part f.type ys f.offset).run P w = .ok (.agg (ys.extract i (i+gs.size))) w:=by
      rw[ho];simp[part,CQ hag,hso]
     refine go _ _ [] n2 [] cs2 [] ds2 r1 r2 gs.size h2 (by rw[t2];exact hx2) (by rw[t4];exact hy2) q2 p1 p2 ?_
     rw[run_equalIn_agg w (d+1) f.type _ _ (by rw[hfo];exact hu) hst,hfo]
     exact Rm d _ _ gs.toList 0 cs1 ds1 r1 hge (by rw[t1];exact hx1) (by rw[t3];exact hy1) q1
    ·cases hok
   ·cases hok
theorem AAn{T:TypeId}{n:List Bool}(h:Tc P T=some n):∃ fs:Array Field,P.underlying T=some (.struct fs)∧P.eqGuardType P.depth T=false∧P.stoodInHeld T=false∧Pk P fs.toList 0=some n:=by
 unfold Tc at h
 split at h
 ·rename_i fs hu
  split at h
  ·rename_i hok
   simp only[ApU,Aq8]at hok
   exact⟨fs,hu,hok.1,hok.2,h⟩
  ·cases h
 ·cases h
theorem AT5(op:BinOp)(T:TypeId)(x y:Operand)(T':TypeId):Claim P E (.binOp op T x y T'):=by
 intro R ty ρ H fz slot k r h
 simp only[evalOp]at h
 split at h
 ·rename_i n hse
  split at h
  ·rename_i cs ds hcx hcy hag
   rw[ApU]at hag
   obtain⟨fs,hu,hgt,hst,hok⟩:=AAn hse
   have hfo:P.fieldsOf T=fs:=by simp[Program.fieldsOf,hu]
   have hrun:∀ (b:Bool),BE n cs ds=some b→∀ (w:World) (F:Nat→Prop) (m:Mp) (ρc:Operand→Value),(∀ x,Rep w F m H (ρ x) (ρc x)) →
     ∃ vs us,ρc x = .agg vs∧ρc y = .agg us∧(Op.equalIn 10000 T (.agg vs) (.agg us)).run P w = .ok b w:=by
    intro b hb w F m ρc hr
    obtain⟨vs,e1⟩:=SH hag.1 (hr x)
    obtain⟨us,e2⟩:=SH hag.2 (hr y)
    have r1:=cells?_ok hcx (hr x)
    have r2:=cells?_ok hcy (hr y)
    rw[e1]at r1
    rw[e2]at r2
    refine⟨vs,us,e1,e2,?_⟩
    rw[run_equalIn_agg w 9999 T vs us (by rw[hfo];exact hu) hst,hfo]
    exact AYn 9997 vs us fs.toList 0 n cs ds b hok (by simpa [Value.cells]using r1) (by simpa [Value.cells]using r2) hb
   split at h
   ·rename_i b hb
    refine⟨_,_,h,fun R' k'=>by simp only[evalOp,hse,hcx,hcy,hag.1,hag.2,AsO,hb],Ac fun w F m ρc o hop hty hi hr=>⟨.bool b,?_,BY _⟩⟩
    obtain⟨vs,us,e1,e2,e3⟩:=hrun b hb w F m ρc hr
    simp[execOp,hop,e1,e2,run_eqGuard_agg w _ T x y vs us hgt,run_eql_struct w T vs us,e3]
   ·rename_i b hb
    refine⟨_,_,h,fun R' k'=>by simp only[evalOp,hse,hcx,hcy,hag.1,hag.2,AsO,hb],Ac fun w F m ρc o hop hty hi hr=>⟨.bool (!b),?_,BY _⟩⟩
    obtain⟨vs,us,e1,e2,e3⟩:=hrun b hb w F m ρc hr
    simp[execOp,hop,e1,e2,run_eqGuard_agg w _ T x y vs us hgt,run_neq_struct w T vs us,e3]
   ·cases h
  ·cases h
 rename_i hse
 split at h
 ·rename_i j a j' b hx hy
  split at h
  ·split at h
   ·rename_i n hn
    refine⟨_,_,h,fun R' k'=>by simp only[evalOp,hse,hx,hy,hn],Ac fun w F m ρc o hop hty hi hr=>⟨.int j n,?_,Ax _ _⟩⟩
    have e1:=BD (hx▸hr x);have e2:=BD (hy▸hr y)
    rw[PM]at hn;unfold Qv at hn
    split at hn
    ·cases hn
    ·simp only[ApN]at hn;subst hn
     simp[execOp,Gg,binOp,Op.shift, *]
   ·cases h
  ·split at h
   ·rename_i n hn
    refine⟨_,_,h,fun R' k'=>by simp only[evalOp,hse,hx,hy,hn],Ac fun w F m ρc o hop hty hi hr=>⟨.int j n,?_,Ax _ _⟩⟩
    have e1:=BD (hx▸hr x);have e2:=BD (hy▸hr y)
    rw[AA0]at hn;unfold Yn at hn
    split at hn
    ·cases hn
    ·simp only[ApN]at hn;subst hn
     simp[execOp,Gg,binOp,Op.shift, *]
   ·cases h
  ·split at h
   ·rename_i hj
    split at h
    ·rename_i n hn
     refine⟨_,_,h,fun R' k'=>by simp only[evalOp,hse,hx,hy,hn,hj],Ac fun w F m ρc o hop hty hi hr=>⟨.int j n,?_,Ax _ _⟩⟩
     have e1:=BD (hx▸hr x);have e2:=BD (hy▸hr y)
     simp only[ApQ]at hj;subst hj
     rw[Pb]at hn;unfold Q9 at hn
     split at hn
     ·cases hn
     ·simp only[ApN]at hn;subst hn
      simp[execOp,Gg,binOp,Op.intDiv, *]
    ·cases h
   ·cases h
  ·split at h
   ·rename_i hj
    split at h
    ·rename_i n hn
     refine⟨_,_,h,fun R' k'=>by simp only[evalOp,hse,hx,hy,hn,hj],Ac fun w F m ρc o hop hty hi hr=>⟨.int j n,?_,Ax _ _⟩⟩
     have e1:=BD (hx▸hr x);have e2:=BD (hy▸hr y)
     simp only[ApQ]at hj;subst hj
     rw[AWN]at hn;unfold AGi at hn
     split at hn
     ·cases hn
     ·simp only[ApN]at hn;subst hn
      simp[execOp,Gg,binOp,Op.intDiv, *]
    ·cases h
   ·cases h
  ·rename_i h1 h2 h3 h4
   split at h
   ·rename_i v hj hv
    refine⟨_,_,h,fun R' k' => ?_,Ac fun w F m ρc o hop hty hi hr => ?_⟩
    ·simp only[evalOp,hse,hx,hy]
     cases op<;>first|exact absurd rfl h1|exact absurd rfl h2|exact absurd rfl h3|exact absurd rfl h4|simp only[hj,hv]
    ·have e1:=BD (hx▸hr x);have e2:=BD (hy▸hr y)
     simp only[ApQ]at hj;subst hj
     obtain⟨u,q1,q2⟩:=AVy (P:=P) hv T w
     exact⟨u,by simp[execOp,hop,e1,e2,Gg,q1],q2 _ _ _⟩
   ·cases h
 ·rename_i a b hx hy
  split at h
  ·rename_i hu
   refine⟨_,_,h,fun R' k'=>by simp only[evalOp,hse,hx,hy,hu],Ac fun w F m ρc o hop hty hi hr=>⟨.bool (a==b),?_,BY _⟩⟩
   have e1:=Cn (hx▸hr x);have e2:=Cn (hy▸hr y)
   simp[execOp,hop,e1,e2,Rl,run_eql_bool w T a b hu]
  ·rename_i hu
   refine⟨_,_,h,fun R' k'=>by simp only[evalOp,hse,hx,hy,hu],Ac fun w F m ρc o hop hty hi hr=>⟨.bool (!(a==b)),?_,BY _⟩⟩
   have e1:=Cn (hx▸hr x);have e2:=Cn (hy▸hr y)
   simp[execOp,hop,e1,e2,Rl,run_neq_bool w T a b hu]
  ·cases h
 ·rename_i a b hx hy
  have hstr:∀ {w:World} {F:Nat→Prop} {m:Mp} {ρc:Operand→Value},(∀ x,Rep w F m H (ρ x) (ρc x))→∃ s s',ρc x = .string s∧ρc y = .string s'∧(s.toList==s'.toList)=seq? a b:=by
   intro w F m ρc hr
   have r1:=hx▸hr x
   have r2:=hy▸hr y
   unfold Rep at r1 r2
   obtain⟨s,e1,rfl⟩:=r1
   obtain⟨s',e2,rfl⟩:=r2
   refine⟨s,s',e1,e2,?_⟩
   rw[seq_eq];exact(AUI s s').symm
  split at h
  ·refine⟨_,_,h,fun R' k'=>by simp only[evalOp,hse,hx,hy],Ac fun w F m ρc o hop hty hi hr=>⟨.bool (seq? a b),?_,BY _⟩⟩
   obtain⟨s,s',e1,e2,e3⟩:=hstr hr
   simp[execOp,hop,e1,e2,Rk,binOp_string_eql,e3]
  ·refine⟨_,_,h,fun R' k'=>by simp only[evalOp,hse,hx,hy],Ac fun w F m ρc o hop hty hi hr=>⟨.bool (!(seq? a b)),?_,BY _⟩⟩
   obtain⟨s,s',e1,e2,e3⟩:=hstr hr
   simp[execOp,hop,e1,e2,Rk,binOp_string_neq,e3]
  ·cases h
 ·cases h
theorem AZb(op:UnOp)(T:TypeId)(x:Operand):Claim P E (.unOp op T x):=by
 intro R ty ρ H fz slot k r h
 simp only[evalOp]at h
 split at h
 ·rename_i b hx
  refine⟨_,_,h,fun R' k'=>by simp only[evalOp,hx],Ac fun w F m ρc o hop hty hi hr=>⟨.bool (!b),?_,BY _⟩⟩
  have e1:=Cn (hx▸hr x)
  simp[execOp,hop,e1,Op.unary]
 ·rename_i j n hx
  refine⟨_,_,h,fun R' k'=>by simp only[evalOp,hx],Ac fun w F m ρc o hop hty hi hr=>⟨.int j (j.wrap (0-n)),?_,Ax _ _⟩⟩
  have e1:=BD (hx▸hr x)
  simp[execOp,hop,e1,Op.unary,Op.intArith]
 ·cases h
theorem X0{T:TypeId}{j:IntKind}(h:AMo P T=some j):P.underlying T=some (.int j):=by
 unfold AMo at h
 split at h
 ·rename_i hu;simp only[ApN]at h;subst h;exact hu
 ·cases h
theorem AE8(fn:Fn)(first cs:Array Operand):Claim P E (.makeFunc fn first cs):=by
 intro R ty ρ H fz slot k r h
 cases fn with
 |func f=>
  simp only[evalOp]at h
  split at h
  ·rename_i hf
   refine⟨_,_,h,fun R' k'=>by simp only[evalOp,hf],Ac fun w F m ρc o hop hty hi hr=>⟨.func (.func f) #[] (cs.map ρc),?_,?_⟩⟩
   ·have:first = #[]:=by
     rw[← Array.toList_eq_nil_iff];exact hf
    subst this
    simp[execOp,hop,Instr.makeFunc]
   ·unfold Rep
    refine⟨_,rfl,?_⟩
    rw[Aqq]
    exact DI (by simp) fun i c v hc hv=>by
     rw[Ap0]at hc hv
     cases hx:cs.toList[i]? with
     |none=>rw[hx]at hc;cases hc
     |some x=>
      rw[hx]at hc hv
      cases hc;cases hv
      exact hr x
  ·rename_i y ys hf
   split at h
   ·rename_i hcs
    refine⟨_,_,h,fun R' k'=>by simp only[evalOp,hf,hcs],Ac fun w F m ρc o hop hty hi hr=>⟨.func (.func f) (first.map ρc) #[],?_,?_⟩⟩
    ·have:cs = #[]:=by
      rw[← Array.toList_eq_nil_iff];exact hcs
     subst this
     simp[execOp,hop,Instr.makeFunc]
    ·unfold Rep
     refine⟨_,rfl,?_⟩
     rw[Aqq,← hf]
     exact DI (by simp) fun i c v hc hv=>by
      rw[Ap0]at hc hv
      cases hx:first.toList[i]? with
      |none=>rw[hx]at hc;cases hc
      |some x=>
       rw[hx]at hc hv
       cases hc;cases hv
       exact hr x
   ·cases h
 |_=>simp[evalOp]at h
theorem AHb(T:TypeId)(o:Option Operand):Claim P E (.makeMap T o):=by
 intro R ty ρ H fz slot k r h
 cases o with
 |some x=>simp[evalOp]at h
 |none=>
  simp only[evalOp]at h
  split at h
  ·rename_i a b hu
   split at h
   ·rename_i ta tb ha hb
    split at h
    ·rename_i hf
     refine⟨_,_,h,fun R' k'=>by simp only[evalOp,hu,ha,hb,hf],A9 fun w F m ρc o hop hty hi hr => ?_⟩
     have hg:=Av.new (w':=w.alloc (.map #[] 0)) hi hf (ob:=.map ta tb []) trivial (some (w.heap.size,0)) rfl rfl rfl (by simp) (fun b hb=>Below.heap_alloc w _ b hb)
      (fun b c h=>by cases h;exact ApY _)
      (fun _=>⟨w.heap.size,0,#[],0,rfl,heap_alloc_new w _,rfl,rfl,fun i e h=>by simp at h⟩)
     refine⟨.map (some w.heap.size),_,F,_,by simp[execOp,hop,Instr.makeMap],hg,?_⟩
     unfold Rep
     have hlt:=At (BW hf).1
     rw[show Ck { objs:=[(slot,.map ta tb [])] } H=H.set slot (.map ta tb [])from rfl,BM hlt,Ar]
     exact⟨_,_,rfl,rfl⟩
    ·cases h
   ·cases h
  ·cases h
theorem AXm(b:Bool)(t:Ty):zeroCells (t.made b)=zeroCells t:=by
 cases t<;>cases b<;>rfl
theorem AeC(b:Bool)(t:Ty):(t.made b).size=t.size:=by
 cases t<;>cases b<;>rfl
theorem ZB(T:TypeId)(x y:Operand):Claim P E (.makeSlice T x y):=by
 intro R ty ρ H fz slot k r h
 simp only[evalOp]at h
 split at h
 ·rename_i e t hsl
  split at h
  ·rename_i zz j l j' c hz hx hy
   split at h
   ·rename_i hfit
    split at h
    ·rename_i hf
     refine⟨_,_,h,fun R' k'=>by simp only[evalOp,hsl,hz,hx,hy,hfit,hf],A9 fun w F m ρc o hop hty hi hr => ?_⟩
     obtain⟨hu,hty0,hpos⟩:=Cs hsl
     obtain⟨t',cs'⟩:=zz
     obtain⟨hty',hcs',i,z,hi0,hz0,hok,hsz,hza⟩:=B9 hz
     subst hcs'
     have:t'=t:=by rw[hty0]at hty';exact(AqP hty').symm
     subst this
     simp only[ApU,N5,An,ApQ,hi0,Ari,AqI]at hfit
     obtain⟨⟨⟨⟨a1,a2⟩,a3,a4⟩,a5⟩,a6⟩:=hfit
     have e1:=BD (hx▸hr x);have e2:=BD (hy▸hr y)
     obtain⟨l',rfl⟩:=Apa a1
     obtain⟨c',rfl⟩:=Apa a3
     have hbb:(i.bytes:Int)*(c':Int)≤281474976710656:=by
      have:i.bytes*c'≤65536*4294967296:=Aq7 a6 (by omega)
      have h2:((i.bytes*c':Nat):Int)≤281474976710656:=by omega
      rwa [ArK]at h2
     have hrun:=run_make (P:=P) w T e i z hu hi0 hz0 j j' l' c' a1 a5 hbb (by omega)
     simp only[AqM]at hrun
     rw[← AXm E.keep t']at hok
     rw[← AeC E.keep t']at hpos hsz
     generalize t'.made E.keep=t' at *
     have hzd:=B8 (w:=w) (F:=F) t' _ hok
     have hzl:z.cells.size=t'.size:=by rw[← Apl];exact Dat.length t' hzd
     have hmade:(madeCells z.cells (c'*i.size)).toList=(List.replicate c' z.cells.toList).flatten:=by
      have:=Dh z.cells c'
      rw[hzl,← hsz]at this
      exact(by unfold madeCells;rw[hzl,← hsz];exact this)
     have a5':(l':Int)≤(c':Int):=a5
     have a4':(c':Int)≤4294967296:=a4
     have hle:l'≤c':=by omega
     have hrow:=Ew (w:=w) (F:=F) hzd l'
     have hrl:=A7 (fun x cs (h:Dat w F t' x cs)=>Dat.length t' h) hrow
     rw[AqD]at hrl
     obtain⟨m',hg,hrep⟩:=E4 hi hf (w':=w.alloc (.cells (madeCells z.cells (c'*i.size)) e)) hpos (xs:=List.replicate l' t'.zero) (heap_alloc_new w _) rfl rfl rfl (by simp) (fun b hb=>Below.heap_alloc w _ b hb)
      (cap:=c') (by simpa using hle) (by simp only[maxLen];omega) (by rw[size_madeCells,hsz]) hrow (by
       rw[hmade,hrl]
       have:c'=l'+(c'-l'):=by omega
       rw[this,← List.replicate_append_replicate,Ary,ArR,AqJ (by rw[hrl];omega),hrl]
       simp)
     rw[AqD]at hrep
     exact⟨_,_,F,m',by simp[execOp,hop,e1,e2,hrun],hg,hrep⟩
    ·cases h
   ·cases h
  ·cases h
 ·cases h
end
end Go.Pev
end
section
namespace Go.Pev
open Go.RowKit
section
variable {P:Program} {E:Env}
theorem JX{α:Type}{xs ys:List α}{l h:Int}(e:EF xs l h=some ys):0≤l∧l≤h∧h≤xs.length∧ys=(xs.take h.toNat).drop l.toNat:=by
 rw[ZP]at e
 unfold Oa at e
 split at e
 ·rename_i hc;simp only[ApN]at e;exact⟨hc.1,hc.2.1,hc.2.2,e.symm⟩
 ·cases e
theorem AU{α:Type}{xs:List α}{i:Int}{x:α}(e:idx xs i=some x):0≤i∧i<xs.length∧xs[i.toNat]? = some x:=by
 rw[idx_eq]at e
 unfold OR at e
 split at e
 ·cases e
 ·rename_i hc
  have:=(Apd.1 e).1
  exact⟨by omega,by omega,e⟩
theorem Kl{w:World}{F:Nat→Prop}{m:Mp}{H:List Ob}{v:AV}{n:Int}(h:AIx v=some n){u:Value}(hr:Rep w F m H v u):∃ k,u = .int k n:=by
 unfold AIx at h
 split at h
 ·simp only[ApN]at h;subst h;exact⟨_,BD hr⟩
 ·cases h
theorem Mn{w:World}{F:Nat→Prop}{m:Mp}{H:List Ob}{ρ:Operand→AV}{ρc:Operand→Value}(hr:∀ x,Rep w F m H (ρ x) (ρc x)){o:Option Operand}{l:Option Int}(h:Hj ρ o=some l):
  (o.map ρc=none∧l=none)∨∃ k n,o.map ρc=some (.int k n)∧l=some n:=by
 unfold Hj at h
 split at h
 ·simp only[ApN]at h;exact .inl ⟨rfl,h.symm⟩
 ·rename_i x
  simp only[Ape]at h
  obtain⟨n,h1,rfl⟩:=h
  obtain⟨k,h2⟩:=Kl h1 (hr x)
  exact .inr ⟨k,n,by simp[h2],rfl⟩
theorem C8{w:World}{T e:TypeId}{i:TypeInfo}(hu:P.underlying T=some (.slice e))(hi:P.info? e=some i)(a:Option Addr)(len cap:Nat){lo hi':Option Value}{l h:Int}
  (hlo:(lo=none∧l=0)∨∃ k,lo=some (.int k l)) (hhi:(hi'=none∧h=len)∨∃ k,hi'=some (.int k h)) (h0:0≤l) (h1:l≤h) (h2:h≤cap) (h3:len≤cap) :
  (Instr.sliceAt T (.slice a len cap) lo hi' none).run P w = .ok (.slice (if cap=l.toNat then a else a.map (·.add (l.toNat*i.size))) (h.toNat-l.toNat) (cap-l.toNat)) w:=by
 have hb:(Instr.sliceBounds true len cap lo hi' none).run P w = .ok (l.toNat,h.toNat,cap) w:=by
  obtain⟨l,rfl⟩:=Apa h0
  obtain⟨h,rfl⟩:=Apa (show 0≤h by omega)
  have h1:l≤h:=by omega
  have h2:h≤cap:=by omega
  rcases hhi with⟨rfl,e1⟩|⟨k,rfl⟩<;>rcases hlo with⟨rfl,e2⟩|⟨k',rfl⟩
  ·have e3:l=0:=by omega
   have e4:h=len:=by omega
   subst e3;subst e4
   simp[Instr.sliceBounds]
  ·have e4:h=len:=by omega
   subst e4
   simp[Instr.sliceBounds,Instr.sliceBound,asIntOf,h1]
  ·have e3:l=0:=by omega
   subst e3
   simp[Instr.sliceBounds,Instr.sliceBound,asIntOf,h2]
  ·simp[Instr.sliceBounds,Instr.sliceBound,asIntOf,h1,h2]
 simp only[Instr.sliceAt,Sem.run_bind,run_underlying hu,Result.andThen_ok,Instr.slice,hb,run_sizeOf hi,Sem.run_pure]
theorem VF{w:World}{F:Nat→Prop}{m:Mp}{H:List Ob}{ρ:Operand→AV}{ρc:Operand→Value}(hr:∀ x,Rep w F m H (ρ x) (ρc x)){o:Option Operand}{l:Option Int}(h:Hj ρ o=some l)(d:Int):
  (o.map ρc=none∧l.getD d=d)∨∃ k,o.map ρc=some (.int k (l.getD d)):=by
 rcases Mn hr h with⟨h1,rfl⟩|⟨k,n,h1,rfl⟩
 ·exact .inl ⟨h1,rfl⟩
 ·exact .inr ⟨k,h1⟩
theorem Fz{w w':World}{ρc:Operand→Value}{o:Oper}{T:TypeId}{x:Operand}{lo up:Option Operand}{v u:Value}(hop:o.op = .slice T x lo up none)(e1:ρc x=v)
  (hrun:(Instr.sliceAt T v (lo.map ρc) (up.map ρc) none).run P w = .ok u w'):(execOp ρc o).run P w = .ok (.value u) w':=by simp[execOp,hop,e1,hrun]
theorem WZ(T:TypeId)(x:Operand)(lo up:Option Operand):Claim P E (.slice T x lo up none):=by
 intro R ty ρ H fz slot k r h
 simp only[evalOp]at h
 split at h
 ·rename_i e hu
  split at h
  ·rename_i l h' hl hh
   unfold GL at h
   split at h
   ·rename_i t xs hx
    split at h
    ·rename_i hsz
     split at h
     ·cases h
     ·rename_i ys hs
      refine⟨_,_,h,fun R' k'=>by simp only[evalOp,hu,hl,hh,GL,hx,hsz,hs],Ac fun w F m ρc o hop hty hi hr => ?_⟩
      obtain⟨a1,a2,a3,rfl⟩:=JX hs
      simp only[ApQ]at hsz
      obtain⟨i,hi0,hsz'⟩:=BK hsz
      have hrx:=hr x
      rw[hx]at hrx
      have hrx:Dat w F (.slice t) xs [ρc x]:=hrx
      obtain⟨a,cap,e1,e2,e3⟩:=hrx
      simp only[Apo,ArS]at e1
      have hrun:=C8 (P:=P) (w:=w) hu hi0 a (List.length (α:=t.den) xs) cap (VF hr hl 0) (VF hr hh (AM xs)) a1 a2 (by omega) e2
      refine⟨_,Fz hop e1 hrun,?_⟩
      have hlen:((xs.take (h'.getD (AM xs)).toNat).drop (l.getD 0).toNat).length=(h'.getD (AM xs)).toNat-(l.getD 0).toNat:=by
       rw[AqS,Api];omega
      show Dat w F (.slice t) _ [_]
      refine⟨_,_,by rw[hlen],by rw[hlen];omega,fun hne => ?_⟩
      have hpos:(l.getD 0).toNat<(h'.getD (AM xs)).toNat:=by
       rcases AqV (l.getD 0).toNat (h'.getD (AM xs)).toNat with hh'|hh'
       ·exact hh'
       ·exact absurd (Apq (by rw[hlen];omega)) hne
      have hxne:xs≠[]:=by rintro rfl;simp at hne
      obtain⟨ad,row,q1,q2,q3,q4⟩:=e3 hxne
      have hk:=fun(x:t.den) cs (h:Dat w F t x cs)=>Dat.length t h
      refine⟨ad.add ((l.getD 0).toNat*t.size),_,?_,by rw[J8];exact q2,HL hk (l.getD 0).toNat (Df hk (h'.getD (AM xs)).toNat q3),fun j u hu' => ?_⟩
      ·rw[ApV (by omega),q1,hsz'];rfl
      ·rw[add_add]
       rw[AqR,AqK]at hu'
       split at hu'
       ·exact q4 _ u hu'
       ·cases hu'
    ·cases h
   ·rename_i t hx
    split at h
    ·rename_i hss
     split at h
     ·rename_i ys hs
      refine⟨_,_,h,fun R' k'=>by simp only[evalOp,hu,hl,hh,GL,hx,hss,hs],Ac fun w F m ρc o hop hty hi hr => ?_⟩
      obtain⟨a1,a2,a3,_⟩:=JX hs
      obtain⟨sz,hsz⟩:=Aq3.1 hss
      obtain⟨i,hi0,hsz'⟩:=BK hsz
      have hrx:=hr x
      rw[hx]at hrx
      unfold Rep at hrx
      simp only[Apk]at a3
      have hrun:=C8 (P:=P) (w:=w) hu hi0 none 0 0 (VF hr hl 0) (VF hr hh 0) a1 a2 a3 (ApY _)
      refine⟨_,Fz hop hrx hrun,?_⟩
      unfold Rep
      have h1:(l.getD 0).toNat=0:=by omega
      have h2:(h'.getD 0).toNat=0:=by omega
      rw[h1,h2];rfl
     ·cases h
    ·cases h
   ·rename_i id hx
    split at h
    ·rename_i T' t xs ho
     split at h
     ·rename_i hsz
      split at h
      ·cases h
      ·rename_i ys hs
       refine⟨_,_,h,fun R' k'=>by simp only[evalOp,hu,hl,hh,GL,hx,ho,hsz,hs],Ac fun w F m ρc o hop hty hi hr => ?_⟩
       obtain⟨a1,a2,a3,rfl⟩:=JX hs
       simp only[ApQ]at hsz
       obtain⟨i,hi0,hsz'⟩:=BK hsz
       have hrx:=hr x
       rw[hx]at hrx
       unfold Rep at hrx
       rw[ho]at hrx
       have hlen:((xs.take (h'.getD (AM xs)).toNat).drop (l.getD 0).toNat).length=(h'.getD (AM xs)).toNat-(l.getD 0).toNat:=by
        rw[AqS,Api];omega
       obtain⟨hpos,hob⟩:=hi.obj id _ ho
       cases hm:m id with
       |none=>
        rw[hm]at hrx hob
        obtain⟨a,e1⟩:=hrx
        simp only at hob;subst hob
        have hrun:=C8 (P:=P) (w:=w) hu hi0 a 0 0 (VF hr hl 0) (VF hr hh (AM ([]:List t.den))) a1 a2 (by simpa using a3) (ApY _)
        refine⟨_,Fz hop e1 hrun,?_⟩
        unfold Rep
        rw[ho,hm]
        simp only[Apk]at a3
        have q1:(l.getD 0).toNat=0:=by omega
        have q2:(h'.getD (AM ([]:List t.den))).toNat=0:=by omega
        rw[q1,q2]
        exact And.intro (by simp[AN,q1,AM]) ⟨_,by simp[AN,AM];rfl⟩
       |some p=>
        obtain⟨b,cap⟩:=p
        rw[hm]at hrx hob
        obtain⟨vs,row,e1,e2,_⟩:=hob
        simp only[Bh]at hrx
        have hrun:=C8 (P:=P) (w:=w) hu hi0 (some ⟨b,0,none⟩) (List.length (α:=t.den) xs) cap (VF hr hl 0) (VF hr hh (AM xs)) a1 a2 (by omega) e2
        refine⟨_,Fz hop hrx hrun,?_⟩
        unfold Rep
        rw[ho,hm]
        have q:AN (AM ((xs.take (h'.getD (AM xs)).toNat).drop (l.getD 0).toNat))=(h'.getD (AM xs)).toNat-(l.getD 0).toNat:=by
         unfold AN AM;rw[AqM];exact hlen
        rw[q]
        refine⟨by unfold AN;omega,_,rfl,fun hlt => ?_⟩
        unfold AN at hlt ⊢
        rw[ApV (by omega),← hsz']
        simp[DE]
     ·cases h
    ·cases h
   ·rename_i id off n hx
    split at h
    ·rename_i T' t xs ho
     split at h
     ·rename_i hsz
      split at h
      ·cases h
      ·rename_i ys hs
       refine⟨_,_,h,fun R' k'=>by simp only[evalOp,hu,hl,hh,GL,hx,ho,hsz,hs],Ac fun w F m ρc o hop hty hi hr => ?_⟩
       obtain⟨a1,a2,a3,rfl⟩:=JX hs
       simp only[ApQ]at hsz
       obtain⟨i,hi0,hsz'⟩:=BK hsz
       have hrx:=hr x
       rw[hx]at hrx
       unfold Rep at hrx
       rw[ho]at hrx
       obtain⟨hle,hrx⟩:=hrx
       have hcl:(F7 off n xs).length=n:=by unfold F7;rw[Api,AqS];omega
       rw[hcl]at a3
       have q:AN (AM (((F7 off n xs).take (h'.getD (n:Int)).toNat).drop (l.getD 0).toNat))=(h'.getD (n:Int)).toNat-(l.getD 0).toNat:=by
        unfold AN AM;rw[AqM,AqS,Api,hcl];omega
       obtain⟨hpos,hob⟩:=hi.obj id _ ho
       cases hm:m id with
       |none=>
        rw[hm]at hrx hob
        obtain⟨a,e1⟩:=hrx
        simp only at hob;subst hob
        have hn:n=0:=by have:=hle;simp at this;exact this.2
        subst hn
        have hrun:=C8 (P:=P) (w:=w) hu hi0 a 0 0 (VF hr hl 0) (VF hr hh ((0:Nat):Int)) a1 a2 a3 (ApY _)
        refine⟨_,Fz hop e1 hrun,?_⟩
        unfold Rep
        rw[ho,hm,q]
        have q1:(l.getD 0).toNat=0:=by omega
        have q2:(h'.getD ((0:Nat):Int)).toNat=0:=by omega
        have hoff:off=0:=by have:=hle;simpa using this
        rw[q1,q2]
        exact And.intro (by simp[AN,q1,hoff]) ⟨_,by simp;rfl⟩
       |some p=>
        obtain⟨b,cap⟩:=p
        rw[hm]at hrx hob
        obtain⟨vs,row,e1,e2,_⟩:=hob
        obtain⟨a,e3,e4⟩:=hrx
        have hrun:=C8 (P:=P) (w:=w) hu hi0 a n (cap-off) (VF hr hl 0) (VF hr hh (n:Int)) a1 a2 (by omega) (by omega)
        refine⟨_,Fz hop e3 hrun,?_⟩
        unfold Rep
        rw[ho,hm,q]
        refine And.intro (by unfold AN;omega) ⟨if cap-off=(l.getD 0).toNat then a else a.map (·.add ((l.getD 0).toNat*i.size)),?_,fun hlt => ?_⟩
        ·unfold AN;congr 1;omega
        ·unfold AN at hlt ⊢
         rw[ApV (by omega),e4 (by omega),hsz']
         simp[DE,AqW]
     ·cases h
    ·cases h
   ·cases h
  ·cases h
 ·cases h
end
end Go.Pev
end
section
namespace Go.Pev
open Go.RowKit
section
variable {P:Program} {E:Env}
theorem DW{w:World}{F:Nat→Prop}{m:Mp}{H:List Ob}{fz:List Bool}(hi:HI w F m H fz){slot:Nat}(hf:Au H fz slot=true)(T:TypeId){t:Ty}(ht:0<t.size)(a:Option Addr):
  ∃ m',Av w F m H fz w F m' (H.set slot (.arr T t [])) fz∧Rep w F m' (H.set slot (.arr T t [])) (.own slot) (.slice a 0 0):=by
 have hg:=Av.new (w':=w) hi hf (ob:=.arr T t []) trivial none rfl rfl rfl (ApY _) (fun _ _=>rfl) (fun b c h=>by cases h) (fun _=>⟨ht,rfl⟩)
 refine⟨_,hg,?_⟩
 unfold Rep
 have hlt:=At (BW hf).1
 rw[BM hlt,Ar]
 exact⟨a,rfl⟩
theorem Yo{w:World}{T e:TypeId}{i:TypeInfo}(hu:P.underlying T=some (.slice e))(hi:P.info? e=some i)(a:Option Addr)(len cap:Nat)(k k':IntKind):
  (Instr.sliceAt T (.slice a len cap) none (some (.int k 0)) (some (.int k' 0))).run P w = .ok (.slice a 0 0) w:=by
 simp[Instr.sliceAt,run_underlying hu,Instr.slice,Instr.sliceBounds,Instr.sliceBound,asIntOf,run_sizeOf hi]
theorem AMp{w:World}{F:Nat→Prop}{m:Mp}{H:List Ob}{v:AV}(h:Fi H v=true){u:Value}(hr:Rep w F m H v u):∃ a len cap,u = .slice a len cap:=by
 cases v with
 |data t d=>
  cases t<;>simp only[Fi,Apc]at h
  rename_i t
  have hrx:Dat w F (.slice t) d [u]:=hr
  obtain⟨a,cap,e1,_⟩:=hrx
  simp only[Apo,ArS]at e1
  exact⟨_,_,_,e1⟩
 |nils e=>unfold Rep at hr;exact⟨_,_,_,hr⟩
 |own id=>
  obtain⟨T,t,xs,ho⟩:=Dl h
  unfold Rep at hr;rw[ho]at hr
  cases hm:m id with
  |none=>rw[hm]at hr;obtain⟨a,e1⟩:=hr;exact⟨_,_,_,e1⟩
  |some p=>rw[hm]at hr;exact⟨_,_,_,hr⟩
 |win id off n=>
  obtain⟨T,t,xs,ho⟩:=Dl h
  unfold Rep at hr;rw[ho]at hr
  obtain⟨_,hr⟩:=hr
  cases hm:m id with
  |none=>rw[hm]at hr;obtain⟨a,e1⟩:=hr;exact⟨_,_,_,e1⟩
  |some p=>rw[hm]at hr;obtain⟨a,e1,_⟩:=hr;exact⟨_,_,_,e1⟩
 |_=>simp[Fi]at h
theorem MS{w:World}{T e:TypeId}{i:TypeInfo}(hu:P.underlying T=some (.slice e))(hi:P.info? e=some i)(a:Option Addr)(len cap:Nat){lo:Option Value}{l h:Int}{kh km:IntKind}
  (hlo:(lo=none∧l=0)∨∃ k,lo=some (.int k l)) (h0:0≤l) (h1:l≤h) (h2:h≤cap) :
  (Instr.sliceAt T (.slice a len cap) lo (some (.int kh h)) (some (.int km h))).run P w = .ok (.slice (if h.toNat=l.toNat then a else a.map (·.add (l.toNat*i.size))) (h.toNat-l.toNat) (h.toNat-l.toNat)) w:=by
 have hb:(Instr.sliceBounds true len cap lo (some (.int kh h)) (some (.int km h))).run P w = .ok (l.toNat,h.toNat,h.toNat) w:=by
  obtain⟨l,rfl⟩:=Apa h0
  obtain⟨h,rfl⟩:=Apa (show 0≤h by omega)
  have h1:l≤h:=by omega
  have h2:h≤cap:=by omega
  rcases hlo with⟨rfl,e2⟩|⟨k',rfl⟩
  ·have e3:l=0:=by omega
   subst e3
   simp[Instr.sliceBounds,Instr.sliceBound,asIntOf,h2]
  ·simp[Instr.sliceBounds,Instr.sliceBound,asIntOf,h1,h2]
 simp only[Instr.sliceAt,Sem.run_bind,run_underlying hu,Result.andThen_ok,Instr.slice,hb,run_sizeOf hi,Sem.run_pure]
theorem Y9(T:TypeId)(x:Operand)(lo up:Option Operand)(mx:Operand):Claim P E (.slice T x lo up (some mx)):=by
 intro R ty ρ H fz slot k r h
 simp only[evalOp]at h
 split at h
 ·rename_i e hu
  split at h
  ·rename_i u
   split at h
   ·rename_i l n n' hl hn hm
    split at h
    ·rename_i t xs hx
     split at h
     ·rename_i hsz
      split at h
      ·rename_i hnn
       split at h
       ·cases h
       rename_i ys hs
       refine⟨_,_,h,fun R' k'=>by simp only[evalOp,hu,hl,hn,hm,hx,hsz,hnn,hs],Ac fun w F m ρc o hop hty hi hr => ?_⟩
       obtain⟨a1,a2,a3,rfl⟩:=JX hs
       rw[CN,ArE]at hnn
       subst hnn
       simp only[ApQ]at hsz
       obtain⟨i,hi0,hsz'⟩:=BK hsz
       have hrx:=hr x
       rw[hx]at hrx
       have hrx:Dat w F (.slice t) xs [ρc x]:=hrx
       obtain⟨a,cap,e1,e2,e3⟩:=hrx
       simp only[Apo,ArS]at e1
       obtain⟨k1,hup⟩:=Kl hn (hr (.tmp u))
       obtain⟨k2,hmx⟩:=Kl hm (hr mx)
       have hrun:=MS (P:=P) (w:=w) (kh:=k1) (km:=k2) hu hi0 a (List.length (α:=t.den) xs) cap (VF hr hl 0) a1 a2 (by omega)
       refine⟨.slice (if n.toNat=(l.getD 0).toNat then a else a.map (·.add ((l.getD 0).toNat*i.size))) (n.toNat-(l.getD 0).toNat) (n.toNat-(l.getD 0).toNat),by simp[execOp,hop,e1,hup,hmx,hrun],?_⟩
       have hlen:((xs.take n.toNat).drop (l.getD 0).toNat).length=n.toNat-(l.getD 0).toNat:=by
        rw[AqS,Api];omega
       unfold Rep
       refine⟨⟨_,_,by rw[hlen],by rw[hlen];omega,fun hne => ?_⟩,_,by rw[hlen]⟩
       have hpos:(l.getD 0).toNat<n.toNat:=by
        rcases AqV (l.getD 0).toNat n.toNat with hh'|hh'
        ·exact hh'
        ·exact absurd (Apq (by rw[hlen];omega)) hne
       have hxne:xs≠[]:=by rintro rfl;simp at hne
       obtain⟨ad,row,q1,q2,q3,q4⟩:=e3 hxne
       have hk:=fun(x:t.den) cs (h:Dat w F t x cs)=>Dat.length t h
       refine⟨ad.add ((l.getD 0).toNat*t.size),_,?_,by rw[J8];exact q2,HL hk (l.getD 0).toNat (Df hk n.toNat q3),fun j u hu' => ?_⟩
       ·rw[ApV (by omega),q1,hsz'];rfl
       ·rw[add_add]
        rw[AqR,AqK]at hu'
        split at hu'
        ·exact q4 _ u hu'
        ·cases hu'
      ·cases h
     ·cases h
    ·cases h
   ·cases h
  ·rename_i hnt
   split at h
   ·rename_i e' t hl hh hm hsl
    obtain⟨hu',hty',hpos⟩:=Cs hsl
    split at h
    ·rename_i n hx hs
     split at h
     ·rename_i hf
      refine⟨_,_,h,fun R' k' => ?_,A9 fun w F m ρc o hop hty hi hr => ?_⟩
      ·rcases up with _|q
       ·simp only[evalOp,hu,hl,hh,hm,hsl,hx,hs,hf]
       ·cases q with
        |tmp u=>exact absurd rfl (hnt u)
        |_=>simp only[evalOp,hu,hl,hh,hm,hsl,hx,hs,hf]
      obtain⟨i,hi0,_⟩:=BK hs
      have hslice:=AMp hx (hr x)
      obtain⟨a,len,cap,e1⟩:=hslice
      have hlo:lo.map ρc=none:=by
       rcases Mn hr hl with⟨h1,_⟩|⟨_,_,_,h2⟩
       ·exact h1
       ·cases h2
      have hup:∃ k,up.map ρc=some (.int k 0):=by
       rcases Mn hr hh with⟨_,h2⟩|⟨k,n,h1,h2⟩
       ·cases h2
       ·cases h2;exact⟨k,h1⟩
      obtain⟨k1,hup⟩:=hup
      obtain⟨k2,hmx⟩:=Kl hm (hr mx)
      have hrun:=Yo (P:=P) (w:=w) hu hi0 a len cap k1 k2
      obtain⟨m',hg,hrep⟩:=DW hi hf e hpos a
      exact⟨_,w,F,m',by simp[execOp,hop,e1,hlo,hup,hmx,hrun],hg,hrep⟩
     ·cases h
    ·cases h
   ·cases h
 ·cases h
theorem Rj{T:TypeId}{f off size:Nat}{ag:Bool}(h:fieldAt P T f=some (off,size,ag)):∃ fs fd i,P.underlying T=some (.struct fs)∧fs[f]? = some fd∧P.info? fd.type=some i∧fd.offset=off∧i.size=size∧D5 P fd.type=some ag:=by
 unfold fieldAt at h
 split at h
 ·rename_i fs hu
  split at h
  ·rename_i fd hf
   split at h
   ·rename_i i ag' hi ha
    simp only[ApN,Apj]at h
    obtain⟨rfl,rfl,rfl⟩:=h
    exact⟨fs,fd,i,hu,hf,hi,rfl,rfl,ha⟩
   ·cases h
  ·cases h
 ·cases h
theorem I7{w:World}{T:TypeId}{f off size:Nat}{ag:Bool}(h:fieldAt P T f=some (off,size,ag))(hs:size≠0)(a:Addr):(Instr.fieldAt T (.pointer (some a)) f).run P w = .ok (.pointer (some (a.add off))) w:=by
 obtain⟨fs,fd,i,hu,hf,hi,rfl,rfl,ha⟩:=Rj h
 simp[Instr.fieldAt,run_underlying hu,hf,Instr.sureAddr,fieldPlace,run_sizeOf hi,hs]
theorem ZD(T:TypeId)(x:Operand)(f:Nat):Claim P E (.fieldAddr T x f):=by
 intro R ty ρ H fz slot k r h
 simp only[evalOp]at h
 split at h
 ·cases h
 ·rename_i off size ag hf
  split at h
  ·cases h
  ·rename_i hs
   simp only[AqQ]at hs
   split at h
   ·rename_i id o' hx
    split at h
    ·rename_i hl
     obtain⟨cs,ho⟩:=Ki hl
     refine⟨_,_,h,fun R' k'=>by simp only[evalOp,hf,hs,Ap8,hx,hl],Ac fun w F m ρc o hop hty hi hr => ?_⟩
     obtain⟨b,c,vs,T,e1,e2,_⟩:=SC hi ho (hx▸hr x)
     refine⟨.pointer (some ⟨b,o'+off,none⟩),by simp[execOp,hop,e2,I7 hf hs,DE],?_⟩
     unfold Rep;rw[ho];exact⟨b,c,e1,rfl⟩
    ·cases h
   ·rename_i id i s hx
    split at h
    ·rename_i hl
     obtain⟨T',t,xs,ho⟩:=Dl hl
     refine⟨_,_,h,fun R' k'=>by simp only[evalOp,hf,hs,Ap8,hx,hl],Ac fun w F m ρc o hop hty hi hr => ?_⟩
     obtain⟨b,c,vs,row,e1,e2,e3,_⟩:=LR hi ho (hx▸hr x)
     refine⟨.pointer (some ⟨b,i*t.size+s+off,none⟩),by simp[execOp,hop,e2,I7 hf hs,DE],?_⟩
     unfold Rep;rw[ho];exact⟨e3,b,c,e1,by rw[ArQ]⟩
    ·cases h
   ·rename_i cs hx
    refine⟨_,_,h,fun R' k'=>by simp only[evalOp,hf,hs,Ap8,hx],Ac fun w F m ρc o hop hty hi hr => ?_⟩
    have hrx:=hr x
    rw[hx]at hrx
    unfold Rep at hrx
    obtain⟨ad,us,e1,e2,e3,e4,e5⟩:=hrx
    refine⟨.pointer (some (ad.add off)),by simp[execOp,hop,e1,I7 hf hs],?_⟩
    unfold Rep
    exact⟨ad.add off,us.drop off,rfl,fun hne=>by rw[J8];exact e2 (by rintro rfl;simp at hne),Em e3 off,fun u hu=>e4 u (Aqv hu),fun j u hu=>by
     rw[add_add];rw[AqR]at hu;exact e5 _ u hu⟩
   ·cases h
theorem AQQ{w:World}{F:Nat→Prop}{m:Mp}{H:List Ob}{T:TypeId}{i:TypeInfo}{ag:Bool}(hi:P.info? T=some i)(ha:D5 P T=some ag){cs:List AV}{v:AV}{us:Array Value}{off:Nat}
  (hl:loadCells ag i.size (cs.drop off)=some v) (hr:Ag w F m H cs us.toList) (h1:∀ u∈us.toList,u.oneCell'=true):∃ u,(part T us off).run P w = .ok u w∧Rep w F m H v u:=by
 unfold loadCells at hl
 cases ag with
 |true=>
  simp only at hl
  split at hl
  ·rename_i hle
   simp only[ApN]at hl;subst hl
   refine⟨.agg (us.extract off (off+i.size)),by simp[part,CQ ha,run_sizeOf hi],?_⟩
   unfold Rep
   refine⟨_,rfl,?_,?_⟩
   ·rw[Array.toList_extract,AsR,show off+i.size-off=i.size from by omega]
    exact OG (Em hr off) _
   ·intro u hu
    rw[Array.toList_extract,AsR]at hu
    exact h1 u (Aqv (Arq hu))
  ·cases hl
 |false=>
  simp only at hl
  have hg:cs[off]? = some v:=by
   rw[List.head?_drop]at hl;exact hl
  obtain⟨u,h2,h3⟩:=CL hr hg
  refine⟨u,?_,h3⟩
  have:us[off]? = some u:=by simpa using h2
  simp[part,CQ ha,this]
theorem AT2(T:TypeId)(x:Operand)(f:Nat):Claim P E (.field T x f):=by
 intro R ty ρ H fz slot k r h
 simp only[evalOp]at h
 split at h
 ·cases h
 ·rename_i off size ag hf
  split at h
  ·rename_i cs hc hag
   split at h
   ·rename_i v hl
    refine⟨_,_,h,fun R' k'=>by simp only[evalOp,hf,hc,hag,hl],Ac fun w F m ρc o hop hty hi hr => ?_⟩
    obtain⟨fs,fd,i,hu,hfd,hi0,rfl,rfl,ha⟩:=Rj hf
    obtain⟨vs,e1⟩:=SH hag (hr x)
    have hrc:=cells?_ok hc (hr x)
    have h1:=cells?_one hc (hr x)
    rw[e1]at hrc h1
    obtain⟨u,q1,q2⟩:=AQQ (P:=P) hi0 ha hl hrc h1
    refine⟨u,?_,q2⟩
    simp only[Value.cells]at q1
    simp[execOp,hop,e1,Instr.field,run_underlying hu,hfd,Go.asAgg,q1]
   ·cases h
  ·cases h
theorem AHc(x:Operand)(i:Nat):Claim P E (.extract x i):=by
 intro R ty ρ H fz slot k r h
 simp only[evalOp]at h
 split at h
 ·rename_i vs hx
  split at h
  ·rename_i v hv
   refine⟨_,_,h,fun R' k'=>by simp only[evalOp,hx,hv],Ac fun w F m ρc o hop hty hi hr => ?_⟩
   have hrx:=hr x
   rw[hx]at hrx
   unfold Rep at hrx
   obtain⟨us,e1,e2⟩:=hrx
   obtain⟨u,h1,h2⟩:=CL e2 hv
   exact⟨u,by
    have:us[i]? = some u:=by simpa using h1
    simp[execOp,hop,e1,Instr.extract,this],h2⟩
  ·cases h
 ·cases h
end
end Go.Pev
end
section
namespace Go.Pev
open Go.RowKit
section
variable {P:Program} {E:Env}
theorem ATP{T:TypeId}{size:Nat}{ag:Bool}(h:elemAt P T=some (size,ag)):∃ n e i,P.underlying T=some (.array n e)∧P.info? e=some i∧i.size=size∧D5 P e=some ag:=by
 unfold elemAt at h
 split at h
 ·rename_i n e hu
  split at h
  ·rename_i i ag' hi ha
   simp only[ApN,Apj]at h
   obtain⟨rfl,rfl⟩:=h
   exact⟨n,e,i,hu,hi,rfl,ha⟩
  ·cases h
 ·cases h
theorem AHU{x:Operand}{s:ByteArray}(h:AEu x=some s):x = .const (.string s):=by
 unfold AEu at h
 split at h
 ·simp only[ApN]at h;subst h;rfl
 ·cases h
theorem AT1(T:TypeId)(x y:Operand):Claim P E (.index T x y):=by
 intro R ty ρ H fz slot k r h
 simp only[evalOp]at h
 split at h
 ·rename_i s hcs
  split at h
  ·rename_i j i hu hy
   split at h
   ·rename_i b hb
    refine⟨_,_,h,fun R' k'=>by simp only[evalOp,hcs,hu,hy,hb],fun w F m a o next Q hop hty hi hr hn => ?_⟩
    have e2:=BD (hy▸hr y)
    have hx:=AHU hcs
    subst hx
    rw[idx_eq]at hb
    unfold OR at hb
    split at hb
    ·cases hb
    ·rename_i hi0
     have hi1:(0:Int)≤i:=Int.not_lt.1 hi0
     have he:a.eval (.const (.string s)) = .string s:=rfl
     have hrun:(execOp a.eval o).run P w = .ok (.value (.int .u8 b)) w:=by
      have hb':s[i.toNat]? = some (UInt8.ofNat b.toNat)∧((UInt8.ofNat b.toNat).toNat:Int)=b:=by
       unfold bytesOf at hb
       rw[Ap0,Ape]at hb
       obtain⟨c,h1,rfl⟩:=hb
       have e:UInt8.ofNat (c.toNat:Int).toNat=c:=by simp
       rw[e]
       refine⟨?_,rfl⟩
       rw[Arj]at h1
       have hlt:i.toNat<s.data.size:=by
        rcases AqV i.toNat s.data.size with h'|h'
        ·exact h'
        ·rw[Array.getElem?_eq_none h']at h1;cases h1
       rw[Aqf hlt]at h1
       simp only[ApN]at h1
       have hlt2:i.toNat<s.size:=hlt
       rw[getElem?_pos s i.toNat hlt2]
       exact Aqy some h1
      have h2:=hb'.2
      generalize UInt8.ofNat b.toNat=c at hb' h2
      subst h2
      simp[execOp,hop,e2,he,Instr.index,asIntOf,run_underlying hu,hi1,hb'.1]
     unfold Oper.wp
     rw[hrun]
     have:=hn (.int .u8 b) w F m (Av.refl hi) (Ax _ _)
     exact this
   ·cases h
  ·cases h
 ·rename_i hcs
  split at h
  ·rename_i size ag n e j i he hu hy
   split at h
   ·rename_i hd
    split at h
    ·rename_i cs hc hag
     split at h
     ·rename_i v hl
      refine⟨_,_,h,fun R' k'=>by simp only[evalOp,hcs,he,hu,hy,hd,hc,hag,hl],Ac fun w F m ρc o hop hty hi hr => ?_⟩
      obtain⟨n',e',i',hu',hi0,rfl,ha⟩:=ATP he
      rw[hu]at hu';cases hu'
      simp only[ApQ]at hd
      obtain⟨vs,e1⟩:=SH hag (hr x)
      have e2:=BD (hy▸hr y)
      have hrc:=cells?_ok hc (hr x)
      have h1:=cells?_one hc (hr x)
      rw[e1]at hrc h1
      obtain⟨u,q1,q2⟩:=AQQ (P:=P) hi0 ha hl hrc h1
      refine⟨u,?_,q2⟩
      simp only[Value.cells]at q1
      have hd1:0≤i:=hd.1
      have hd2:i<(n:Int):=hd.2
      simp[execOp,hop,e1,e2,Instr.index,asIntOf,run_underlying hu,hd1,hd2,run_sizeOf hi0,q1]
     ·cases h
    ·cases h
   ·cases h
  ·cases h
theorem EA{w:World}{T e:TypeId}{i:TypeInfo}(hu:P.underlying T=some (.slice e))(hi:P.info? e=some i)(ad:Addr)(len cap:Nat)(k:IntKind){n:Int}(h0:0≤n)(h1:n<len):
  (Instr.indexAt T (.slice (some ad) len cap) (.int k n)).run P w = .ok (.pointer (some (ad.add (n.toNat*i.size)))) w:=by
 simp[Instr.indexAt,asIntOf,run_underlying hu,h0,h1,run_sizeOf hi]
theorem CJ{w w':World}{ρc:Operand→Value}{o:Oper}{T:TypeId}{x y:Operand}{v n u:Value}(hop:o.op = .indexAddr T x y)(e1:ρc x=v)(e2:ρc y=n)
  (hrun:(Instr.indexAt T v n).run P w = .ok u w'):(execOp ρc o).run P w = .ok (.value u) w':=by simp[execOp,hop,e1,e2,hrun]
theorem ZC(T:TypeId)(x y:Operand):Claim P E (.indexAddr T x y):=by
 intro R ty ρ H fz slot k r h
 simp only[evalOp]at h
 split at h
 ·rename_i e j i hu hy
  split at h
  ·rename_i t xs hx
   split at h
   ·rename_i hsz
    split at h
    ·rename_i d hd
     refine⟨_,_,h,fun R' k'=>by simp only[evalOp,hu,hy,hx,hsz,hd],Ac fun w F m ρc o hop hty hi hr => ?_⟩
     simp only[ApQ]at hsz
     obtain⟨i',hi0,hsz'⟩:=BK hsz
     obtain⟨a1,a2,a3⟩:=AU hd
     have hrx:=hr x
     rw[hx]at hrx
     have hrx:Dat w F (.slice t) xs [ρc x]:=hrx
     obtain⟨a,cap,e1,e2,e3⟩:=hrx
     simp only[Apo,ArS]at e1
     have hne:xs≠[]:=by rintro rfl;simp at a3
     obtain⟨ad,row,rfl,q2,q3,q4⟩:=e3 hne
     have hk:=fun(x:t.den) cs (h:Dat w F t x cs)=>Dat.length t h
     have hg:=ABY hk q3 a3
     refine⟨_,CJ hop e1 (BD (hy▸hr y)) (EA hu hi0 ad _ cap j a1 a2),?_⟩
     unfold Rep
     refine⟨_,(row.drop (i.toNat*t.size)).take t.size,rfl,fun _=>by rw[J8];exact q2,Hs t hg,Dat.IV t hg,fun k u hu' => ?_⟩
     rw[add_add,hsz']
     rw[AqK]at hu'
     split at hu'
     ·rw[AqR]at hu'
      exact q4 _ u hu'
     ·cases hu'
    ·cases h
   ·cases h
  ·rename_i id hx
   split at h
   ·rename_i T' t xs ho
    split at h
    ·rename_i hsz
     split at h
     ·rename_i d hd
      refine⟨_,_,h,fun R' k'=>by simp only[evalOp,hu,hy,hx,ho,hsz,hd],Ac fun w F m ρc o hop hty hi hr => ?_⟩
      simp only[ApQ]at hsz
      obtain⟨i',hi0,hsz'⟩:=BK hsz
      obtain⟨a1,a2,a3⟩:=AU hd
      have hrx:=hr x
      rw[hx]at hrx
      unfold Rep at hrx
      rw[ho]at hrx
      obtain⟨hpos,hob⟩:=hi.obj id _ ho
      cases hm:m id with
      |none=>rw[hm]at hob;simp only at hob;subst hob;simp at a3
      |some p=>
       obtain⟨b,cap⟩:=p
       rw[hm]at hrx
       simp only[Bh]at hrx
       refine⟨_,CJ hop hrx (BD (hy▸hr y)) (EA hu hi0 ⟨b,0,none⟩ _ cap j a1 a2),?_⟩
       unfold Rep
       rw[ho]
       exact⟨by unfold AN;omega,b,cap,hm,by rw[DE,hsz'];simp[AN]⟩
     ·cases h
    ·cases h
   ·rename_i T' tgt is ho
    split at h
    ·rename_i hsz
     split at h
     ·rename_i d hd
      refine⟨_,_,h,fun R' k'=>by simp only[evalOp,hu,hy,hx,ho,hsz,hd],Ac fun w F m ρc o hop hty hi hr => ?_⟩
      simp only[ApQ]at hsz
      obtain⟨i',hi0,hsz'⟩:=BK hsz
      obtain⟨a1,a2,a3⟩:=AU hd
      have hrx:=hr x
      rw[hx]at hrx
      unfold Rep at hrx
      rw[ho]at hrx
      have hob:=hi.obj id _ ho
      cases hm:m id with
      |none=>rw[hm]at hob;have hob:is=[]:=hob;subst hob;simp at a3
      |some p=>
       obtain⟨b,cap⟩:=p
       rw[hm]at hrx
       simp only[Bh]at hrx
       refine⟨_,CJ hop hrx (BD (hy▸hr y)) (EA hu hi0 ⟨b,0,none⟩ _ cap j a1 a2),?_⟩
       unfold Rep
       rw[ho]
       exact⟨by unfold AN;omega,b,cap,hm,by rw[DE,hsz'];simp[AN]⟩
     ·cases h
    ·cases h
   ·cases h
  ·rename_i id off n hx
   split at h
   ·rename_i T' t xs ho
    split at h
    ·rename_i hsz
     split at h
     ·rename_i d hd
      refine⟨_,_,h,fun R' k'=>by simp only[evalOp,hu,hy,hx,ho,hsz,hd],Ac fun w F m ρc o hop hty hi hr => ?_⟩
      simp only[ApQ]at hsz
      obtain⟨i',hi0,hsz'⟩:=BK hsz
      obtain⟨a1,a2,a3⟩:=AU hd
      have hrx:=hr x
      rw[hx]at hrx
      unfold Rep at hrx
      rw[ho]at hrx
      obtain⟨hle,hrx⟩:=hrx
      have hcl:(F7 off n xs).length=n:=by unfold F7;rw[Api,AqS];omega
      rw[hcl]at a2
      obtain⟨hpos,hob⟩:=hi.obj id _ ho
      cases hm:m id with
      |none=>
       rw[hm]at hob;simp only at hob;subst hob
       have:n=0:=by have:=hle;simp at this;exact this.2
       omega
      |some p=>
       obtain⟨b,cap⟩:=p
       rw[hm]at hrx hob
       obtain⟨vs,row,e1,e2,_⟩:=hob
       obtain⟨a,e3,e4⟩:=hrx
       have e4:=e4 (by omega)
       subst e4
       refine⟨_,CJ hop e3 (BD (hy▸hr y)) (EA hu hi0 ⟨b,off*t.size,none⟩ _ _ j a1 a2),?_⟩
       unfold Rep
       rw[ho]
       exact⟨by unfold AN;omega,b,cap,hm,by rw[DE,hsz'];simp[AN,AqW]⟩
     ·cases h
    ·cases h
   ·cases h
  ·cases h
 ·rename_i n e j i hu hy
  split at h
  ·rename_i s hs hd
   obtain⟨i',hi0,rfl⟩:=BK hs
   have hd':=hd
   simp only[ApQ]at hd'
   have hd1:0≤i:=hd'.1
   have hd2:i<(n:Int):=hd'.2
   have hrun:∀ (w:World) (ad:Addr),(Instr.indexAt T (.pointer (some ad)) (.int j i)).run P w = .ok (.pointer (some (ad.add (i.toNat*i'.size)))) w:=by
    intro w ad
    simp[Instr.indexAt,asIntOf,run_underlying hu,Instr.sureAddr,hd1,hd2,run_sizeOf hi0]
   split at h
   ·rename_i id o' hx
    split at h
    ·rename_i hl
     obtain⟨cs,ho⟩:=Ki hl
     refine⟨_,_,h,fun R' k'=>by simp only[evalOp,hu,hy,hs,hd,hx,hl],Ac fun w F m ρc o hop hty hi hr => ?_⟩
     obtain⟨b,c,vs,T,e1,e2,_⟩:=SC hi ho (hx▸hr x)
     refine⟨_,CJ hop e2 (BD (hy▸hr y)) (hrun w _),?_⟩
     unfold Rep;rw[ho];exact⟨b,c,e1,by rw[DE]⟩
    ·cases h
   ·rename_i id jj s hx
    split at h
    ·rename_i hl
     obtain⟨T',t,xs,ho⟩:=Dl hl
     refine⟨_,_,h,fun R' k'=>by simp only[evalOp,hu,hy,hs,hd,hx,hl],Ac fun w F m ρc o hop hty hi hr => ?_⟩
     obtain⟨b,c,vs,row,e1,e2,e3,_⟩:=LR hi ho (hx▸hr x)
     refine⟨_,CJ hop e2 (BD (hy▸hr y)) (hrun w _),?_⟩
     unfold Rep;rw[ho];exact⟨e3,b,c,e1,by rw[DE,ArQ]⟩
    ·cases h
   ·rename_i cs hx
    refine⟨_,_,h,fun R' k'=>by simp only[evalOp,hu,hy,hs,hd,hx],Ac fun w F m ρc o hop hty hi hr => ?_⟩
    have hrx:=hr x
    rw[hx]at hrx
    unfold Rep at hrx
    obtain⟨ad,us,e1,e2,e3,e4,e5⟩:=hrx
    refine⟨_,CJ hop e1 (BD (hy▸hr y)) (hrun w _),?_⟩
    unfold Rep
    exact⟨_,us.drop (i.toNat*i'.size),rfl,fun hne=>by rw[J8];exact e2 (by rintro rfl;simp at hne),Em e3 _,fun u hu=>e4 u (Aqv hu),fun j u hu=>by
     rw[add_add];rw[AqR]at hu;exact e5 _ u hu⟩
   ·cases h
  ·cases h
 ·cases h
end
end Go.Pev
end
section
namespace Go.Pev
open Go.RowKit
section
variable {P:Program} {E:Env}
theorem AgI{α:Type}{a:Array α}{x:α}(h:a.toList=[x]):a = #[x]:=by rw[← ArG (xs:=a),h]
theorem AnZ{α:Type}{a:Array α}{x y:α}(h:a.toList=[x,y]):a = #[x,y]:=by rw[← ArG (xs:=a),h]
theorem AEI{w:World}{F:Nat→Prop}{a b:Ty}:∀ {es:List (a.den×b.den)} {ms:List MapEntry},IK w F a b es ms→ms.length=es.length:=by
 intro es
 induction es with
 |nil=>rintro ms rfl;rfl
 |cons e es ih=>rintro ms ⟨me,ms',rfl,_,h⟩;simp[ih h]
theorem E6{w w':World}{ρc:Operand→Value}{o:Oper}{T:TypeId}{x:Operand}{v u:Value}(hop:o.op = .call { callee:=.builtin .len,args:=#[x],argTypes:=#[T] })(e1:ρc x=v)
  (hrun:(Builtin.len_ #[T] o.type #[v]).run P w = .ok u w'):(execOp ρc o).run P w = .ok (.value u) w':=by simp[execOp,hop,resolve,invoke,builtin,e1,hrun]
theorem Ba{w:World}{T e ty:TypeId}(hu:P.underlying T=some (.slice e))(a:Option Addr)(n c:Nat):(Builtin.len_ #[T] ty #[.slice a n c]).run P w = .ok (.int .i64 n) w:=by
 simp[Builtin.len_,run_underlying hu,goInt]
theorem Afw(args:Array Operand)(ts:Array TypeId):Claim P E (.call { callee:=.builtin .len,args:=args,argTypes:=ts }):=by
 intro R ty ρ H fz slot k r h
 simp only[evalOp]at h
 split at h
 ·rename_i x T ha hts
  obtain rfl:=AgI ha
  obtain rfl:=AgI hts
  split at h
  ·rename_i e hu
   split at h
   ·rename_i t xs hx
    refine⟨_,_,h,fun R' k'=>by simp only[evalOp,hu,hx],Ac fun w F m ρc o hop hty hi hr => ?_⟩
    have hrx:=hr x
    rw[hx]at hrx
    have hrx:Dat w F (.slice t) xs [ρc x]:=hrx
    obtain⟨a,cap,e1,_⟩:=hrx
    simp only[Apo,ArS]at e1
    exact⟨_,E6 hop e1 (Ba hu _ _ _),Ax _ _⟩
   ·rename_i hx
    refine⟨_,_,h,fun R' k'=>by simp only[evalOp,hu,hx],Ac fun w F m ρc o hop hty hi hr => ?_⟩
    have hrx:=hr x
    rw[hx]at hrx
    unfold Rep at hrx
    exact⟨_,E6 hop hrx (Ba hu _ _ _),Ax _ _⟩
   ·rename_i id hx
    split at h
    ·rename_i T' t xs ho
     refine⟨_,_,h,fun R' k'=>by simp only[evalOp,hu,hx,ho],Ac fun w F m ρc o hop hty hi hr => ?_⟩
     have hrx:=hr x
     rw[hx]at hrx
     unfold Rep at hrx
     rw[ho]at hrx
     obtain⟨_,hob⟩:=hi.obj id _ ho
     cases hm:m id with
     |none=>
      rw[hm]at hrx hob
      obtain⟨a,e1⟩:=hrx
      simp only at hob;subst hob
      exact⟨_,E6 hop e1 (Ba hu _ _ _),Ax _ _⟩
     |some p=>
      rw[hm]at hrx
      exact⟨_,E6 hop hrx (Ba hu _ _ _),Ax _ _⟩
    ·rename_i T' tgt is ho
     refine⟨_,_,h,fun R' k'=>by simp only[evalOp,hu,hx,ho],Ac fun w F m ρc o hop hty hi hr => ?_⟩
     have hrx:=hr x
     rw[hx]at hrx
     unfold Rep at hrx
     rw[ho]at hrx
     have hob:=hi.obj id _ ho
     cases hm:m id with
     |none=>
      rw[hm]at hrx hob
      obtain⟨a,e1⟩:=hrx
      have hob:is=[]:=hob
      subst hob
      exact⟨_,E6 hop e1 (Ba hu _ _ _),Ax _ _⟩
     |some p=>
      rw[hm]at hrx
      exact⟨_,E6 hop hrx (Ba hu _ _ _),Ax _ _⟩
    ·cases h
   ·rename_i id off n hx
    split at h
    ·rename_i hl
     obtain⟨T',t,xs,ho⟩:=Dl hl
     refine⟨_,_,h,fun R' k'=>by simp only[evalOp,hu,hx,hl],Ac fun w F m ρc o hop hty hi hr => ?_⟩
     have hrx:=hr x
     rw[hx]at hrx
     unfold Rep at hrx
     rw[ho]at hrx
     obtain⟨_,hrx⟩:=hrx
     cases hm:m id with
     |none=>
      rw[hm]at hrx
      obtain⟨a,e1⟩:=hrx
      exact⟨_,E6 hop e1 (Ba hu _ _ _),Ax _ _⟩
     |some p=>
      rw[hm]at hrx
      obtain⟨a,e1,_⟩:=hrx
      exact⟨_,E6 hop e1 (Ba hu _ _ _),Ax _ _⟩
    ·cases h
   ·cases h
  ·rename_i kt vt hu
   split at h
   ·rename_i id hx
    split at h
    ·rename_i a b es ho
     refine⟨_,_,h,fun R' k'=>by simp only[evalOp,hu,hx,ho],Ac fun w F m ρc o hop hty hi hr => ?_⟩
     have hrx:=hr x
     rw[hx]at hrx
     unfold Rep at hrx
     rw[ho]at hrx
     obtain⟨bb,c,e1,e2⟩:=hrx
     obtain⟨b',c',ms,clock,e3,e4,e5,_⟩:=hi.obj id _ ho
     rw[e1]at e3;cases e3
     refine⟨_,E6 hop e2 (u:=.int .i64 (ms.size:Int)) ?_,?_⟩
     ·simp[Builtin.len_,run_underlying hu,goInt,getObj,Sem.run,e4]
     ·have:=AEI e5
      rw[Apl]at this
      rw[this]
      exact Ax _ _
    ·cases h
   ·cases h
  ·cases h
 ·cases h
theorem EY{w:World}{F:Nat→Prop}{m:Mp}{H:List Ob}{fz:List Bool}(hi:HI w F m H fz){t:Ty}{v:AV}{ys:List t.den}{fr:List Nat}(h:FE H (.slice t) v=some (ys,fr)){u:Value}(hr:Rep w F m H v u):
  ∃ a cap,u = .slice a ys.length cap∧ys.length≤cap∧(ys≠[]→a.isSome=true)∧∃ news,rows (Dat w F t) ys news∧∀ ad,a=some ad→∀ j u,news[j]? = some u→w.cell? (ad.add j)=some u:=by
 change Dz H (.slice t) v=some (ys,fr)at h
 unfold Dz at h
 split at h
 ·rename_i t' d
  simp only[Ape,Apj]at h
  obtain⟨y,h1,rfl,rfl⟩:=h
  obtain⟨e,h2⟩:=Ds h1
  subst e;simp only at h2;subst h2
  have hrx:Dat w F (.slice t) d [u]:=hr
  obtain⟨a,cap,e1,e2,e3⟩:=hrx
  simp only[Apo,ArS]at e1
  refine⟨a,cap,e1,e2,fun hne => ?_,?_⟩
  ·obtain⟨ad,row,rfl,_⟩:=e3 hne;rfl
  ·by_cases hne:d=[]
   ·subst hne
    exact⟨[],rfl,fun ad _ j u hu=>by simp at hu⟩
   ·obtain⟨ad,row,rfl,q1,q2,q3⟩:=e3 hne
    exact⟨row,q2,fun ad' h=>by cases h;exact q3⟩
 ·rename_i t' d
  simp only[Ape,Apj]at h
  obtain⟨y,h1,rfl,rfl⟩:=h
  obtain⟨e,h2⟩:=Ds h1
  injection e with e
  subst e;simp only at h2;subst h2
  unfold Rep at hr
  obtain⟨a,cap,e1,e2,e3⟩:=hr.1
  simp only[Apo,ArS]at e1
  refine⟨a,cap,e1,e2,fun hne => ?_,?_⟩
  ·obtain⟨ad,row,rfl,_⟩:=e3 hne;rfl
  ·by_cases hne:d=[]
   ·subst hne
    exact⟨[],rfl,fun ad _ j u hu=>by simp at hu⟩
   ·obtain⟨ad,row,rfl,q1,q2,q3⟩:=e3 hne
    exact⟨row,q2,fun ad' h=>by cases h;exact q3⟩
 ·simp only[ApN,Apj]at h
  obtain⟨rfl,rfl⟩:=h
  unfold Rep at hr
  exact⟨none,0,hr,ApY _,fun h=>absurd rfl h,[],rfl,fun ad _ j u hu=>by simp at hu⟩
 ·rename_i id
  split at h
  ·rename_i T e xs ho
   simp only[Ape,Apj]at h
   obtain⟨y,h1,rfl,rfl⟩:=h
   obtain⟨e',h2⟩:=Ds h1
   injection e' with e'
   subst e';simp only at h2;subst h2
   unfold Rep at hr
   rw[ho]at hr
   obtain⟨_,hob⟩:=hi.obj id _ ho
   cases hm:m id with
   |none=>
    rw[hm]at hr hob
    obtain⟨a,rfl⟩:=hr
    simp only at hob;subst hob
    exact⟨a,0,rfl,ApY _,fun h=>absurd rfl h,[],rfl,fun ad _ j u hu=>by simp at hu⟩
   |some p=>
    obtain⟨b,cap⟩:=p
    rw[hm]at hr hob
    obtain⟨vs,row,e1,e2,e3,e4,e5,e6⟩:=hob
    refine⟨_,cap,hr,e2,fun _=>rfl,row,e5,fun ad h j u hu => ?_⟩
    cases h
    rw[DE,Aqe,Dr e1]
    exact Cj e6 hu
  ·cases h
 ·rename_i id off n
  split at h
  ·rename_i T e xs ho
   simp only[Ape,Apj]at h
   obtain⟨y,h1,rfl,rfl⟩:=h
   obtain⟨e',h2⟩:=Ds h1
   injection e' with e'
   subst e';simp only at h2;subst h2
   unfold Rep at hr
   rw[ho]at hr
   obtain⟨hle,hr⟩:=hr
   have hcl:(F7 off n xs).length=n:=by unfold F7;rw[Api,AqS];omega
   obtain⟨_,hob⟩:=hi.obj id _ ho
   cases hm:m id with
   |none=>
    rw[hm]at hr hob
    obtain⟨a,rfl⟩:=hr
    simp only at hob;subst hob
    have hn:n=0:=by have:=hle;simp at this;exact this.2
    subst hn
    have hd:F7 off 0 ([]:List e.den)=[]:=by simp[F7]
    exact⟨a,0,by rw[hcl],by rw[hcl];omega,fun h=>absurd hd h,[],by rw[hd];rfl,fun ad _ j u hu=>by simp at hu⟩
   |some p=>
    obtain⟨b,cap⟩:=p
    rw[hm]at hr hob
    obtain⟨vs,row,e1,e2,e3,e4,e5,e6⟩:=hob
    obtain⟨a,rfl,ha⟩:=hr
    have hk:=fun(x:e.den) cs (h:Dat w F e x cs)=>Dat.length e h
    have hrw:=Df hk n (HL hk off e5)
    refine⟨a,cap-off,by rw[hcl],by rw[hcl];omega,fun hne => ?_,_,hrw,fun ad h j u hu => ?_⟩
    ·have hn:0<n:=by
      rcases AqL n with h0|h0
      ·exact absurd (Apq (hcl.trans h0)) hne
      ·exact h0
     rw[ha (by omega)];rfl
    ·have hn:0<n:=by
      rcases AqL n with h0|h0
      ·subst h0;simp at hu
      ·exact h0
     rw[ha (by omega)]at h;cases h
     rw[DE,Dr e1]
     rw[AqK]at hu
     split at hu
     ·rw[AqR]at hu
      exact Cj e6 hu
     ·cases hu
  ·cases h
 ·cases h
end
end Go.Pev
end
section
namespace Go.Pev
open Go.RowKit
section
variable {P:Program} {E:Env}
theorem Av.kill{w:World}{F:Nat→Prop}{m:Mp}{H:List Ob}{fz:List Bool}(hi:HI w F m H fz){j:Nat}(hoj:owned H fz j):Av w F m H fz w F m (H.set j .dead) fz:=by
 obtain⟨oj,hj,hjf,hjd⟩:=CA hoj
 have hlt:=At hj
 have hgj:(H.set j .dead)[j]? = some .dead:=BM hlt
 have hcomp:C7 H (H.set j .dead) m m:=by
  intro i x hix hf
  by_cases hij:i=j
  ·subst hij;exact .inl hgj
  ·rcases C7.refl H m i x hix hf with h|⟨hd,x',h4,h5,_⟩
   ·exact .inl (by rw[A1 hij];exact h)
   ·exact .inr ⟨hd,x',by rw[A1 hij];exact h4,h5,rfl⟩
 have hown:∀ i,owned (H.set j .dead) fz i→owned H fz i:=fun i hoi=>by
  by_cases hij:i=j
  ·subst hij;unfold owned at hoi;rw[hgj]at hoi;exact hoi.elim
  ·unfold owned at *;rw[A1 hij]at hoi;exact hoi
 refine⟨⟨rfl,rfl,rfl,ApY _,fun _ _ _=>rfl,fun _ h=>h,fun _ h=>.inl h,fun i b c h1 h2=>.inl ⟨i,c,hown i h1,h2⟩,hcomp⟩,⟨?_,?_,?_,?_,hi.lt,by simpa using hi.len⟩⟩
 ·intro id x hix
  by_cases hij:id=j
  ·subst hij;rw[hgj]at hix;cases hix;trivial
  ·rw[A1 hij]at hix
   exact ObI.mono (fun _ _=>rfl) (fun _ h=>h) hcomp (fun _ _ _ _ _ _=>rfl) (hi.obj id x hix)
 ·exact fun i k b c b' c' h1 h2=>hi.sep i k b c b' c' (hown i h1) (hown k h2)
 ·exact fun i b c h1=>hi.off i b c (hown i h1)
 ·intro i T t xs b c hio hf hmi
  by_cases hij:i=j
  ·subst hij;rw[hgj]at hio;cases hio
  ·rw[A1 hij]at hio
   exact hi.froz i T t xs b c hio hf hmi
theorem Kk{H:List Ob}{fz:List Bool}{slot j:Nat}{o:Ob}(h:Au H fz slot=true)(hne:slot≠j):Au (H.set j o) fz slot=true:=by
 unfold Au at *
 rw[A1 hne];exact h
theorem CD{w w':World}{ρc:Operand→Value}{o:Oper}{T:TypeId}{s x:Operand}{v n u:Value}(hop:o.op = .call { callee:=.builtin .append,args:=#[s,x],argTypes:=#[T,T] })(e1:ρc s=v)(e2:ρc x=n)
  (hrun:(Builtin.append_ #[T,T] o.type #[v,n]).run P w = .ok u w'):(execOp ρc o).run P w = .ok (.value u) w':=by simp[execOp,hop,resolve,invoke,builtin,e1,e2,hrun]
theorem Gu{w:World}{T e ty:TypeId}{i:TypeInfo}(hu:P.underlying T=some (.slice e))(hi:P.info? e=some i)(a:Option Addr){n cap:Nat}(hn:n≤cap)(A:Option Addr)(c:Nat):
  (Builtin.append_ #[T,T] ty #[.slice a n cap,.slice A 0 c]).run P w = .ok (.slice a n cap) w:=by
 have hf:(Builtin.firstCells i.size 0 (.slice A 0 c)).run P w = .ok #[] w:=by
  cases A with
  |none=>simp[Builtin.firstCells]
  |some ad=>simp[Builtin.firstCells,Go.loadCells,loadCellsFrom]
 cases a with
 |none=>simp[Builtin.append_,run_underlying hu,run_sizeOf hi,Builtin.lenOf,hn,hf]
 |some ad=>simp[Builtin.append_,run_underlying hu,run_sizeOf hi,Builtin.lenOf,hn,hf,storeCells]
structure ApJ(w:World)(a:Option Addr)(n cap:Nat)(e:TypeId)(sz:Nat)(m:Nat)(old news:List Value)(v:Value)(w':World):Prop where
 os:w'.os=w.os
 tape:w'.tape=w.tape
 output:w'.output=w.output
 size:w.heap.size≤w'.heap.size
 keep:∀ k,k<w.heap.size→(∀ b,a=some ⟨b,0,none⟩→k≠b)→w'.heap[k]? = w.heap[k]?
 res:(m=0∧v = .slice a n cap∧w'=w)∨(∃ g cap' vs,v = .slice (some ⟨g,0,none⟩) (n+m) cap'∧w'.heap[g]? = some (.cells vs e (0,0))∧n+m≤cap'∧cap'≤maxLen∧vs.size=cap'*sz ∧
   vs.toList.take ((n+m)*sz)=old++news∧(w.heap.size≤g∨a=some ⟨g,0,none⟩))
theorem AFY{w:World}{T e ty:TypeId}{i:TypeInfo}{z:Value}(hu:P.underlying T=some (.slice e))(hi:P.info? e=some i)(hz:i.zero=some z)(hzs:z.cells.size=i.size)(hsz:0<i.size)
  {b n cap:Nat} {vs:Array Value} (hb:w.heap[b]? = some (.cells vs e (0,0))) (hn:n≤cap) (hmax:cap≤maxLen) (hvs:vs.size=cap*i.size) {A:Option Addr} {m c:Nat} {news:List Value} (hl:news.length=m*i.size)
  (hA:0<m→A.isSome=true) (hnews:∀ ad,A=some ad→∀ j u,news[j]? = some u→w.cell? (ad.add j)=some u) (h1:∀ u∈news,u.oneCell'=true) (hfit:n+m≤4294967296) (hby:i.bytes≤1024) :
  ∃ v w',(Builtin.append_ #[T,T] ty #[.slice (some ⟨b,0,none⟩) n cap,.slice A m c]).run P w = .ok v w'∧ApJ w (some ⟨b,0,none⟩) n cap e i.size m (vs.toList.take (n*i.size)) news v w':=by
 have hbytes:(n+m)*i.bytes≤140737488355328:=AqN (Aq7 hfit hby) (by omega)
 have hown:w.ownsRow 0 e i.size (.slice (some ⟨b,0,none⟩) n cap) n (vs.toList.take (n*i.size)):=by
  refine⟨?_,.inr ⟨b,cap,vs,rfl,ArN _,hb,hn,hmax,hvs,rfl⟩⟩
  rw[Api,Apl,hvs]
  exact Aqn (AqC _ hn)
 cases A with
 |none=>
  have hm:m=0:=by
   rcases AqL m with h0|h0
   ·exact h0
   ·exact absurd (hA h0) (by simp)
  subst hm
  exact⟨_,w,Gu hu hi _ hn none c,rfl,rfl,rfl,ApY _,fun _ _ _=>rfl,.inl ⟨rfl,rfl,rfl⟩⟩
 |some ad=>
  obtain⟨v',w',hrun,⟨hl',hres⟩,hg,_,hat⟩:=run_append_own_at (P:=P) w 0 T ty e i z i.size i.bytes hu hi hz rfl rfl hzs hsz _ n _ hown ad m c news hl (hnews ad rfl) h1 (by simp only[maxLen];omega) hbytes (ArN _)
  refine⟨v',w',hrun,hg.os,hg.tape,hg.output,hg.size,fun k hk hne=>hg.block k hk (by simp[Value.ownBlock];exact hne b rfl),.inr ?_⟩
  rcases hres with⟨rfl,h0⟩|⟨g,cap',cur,rfl,_,h2,h3,h4,h5,h6⟩
  ·rcases hat with h|h<;>simp[Value.ownBlock]at h
  ·refine⟨g,cap',cur,rfl,h2,h3,h4,h5,h6,?_⟩
   rcases hat with h|h
   ·simp only[Value.ownBlock,ApN]at h;subst h;exact .inr rfl
   ·simp only[Value.ownBlock,ApN]at h;subst h;exact .inl (ApY _)
theorem NI{w:World}{T e ty:TypeId}{i:TypeInfo}{z:Value}(hu:P.underlying T=some (.slice e))(hi:P.info? e=some i)(hz:i.zero=some z)(hzs:z.cells.size=i.size)
  (a:Option Addr) {A:Option Addr} {m c:Nat} {news:List Value} (hl:news.length=m*i.size)
  (hA:0<m→A.isSome=true) (hnews:∀ ad,A=some ad→∀ j u,news[j]? = some u→w.cell? (ad.add j)=some u) (hfit:m≤4294967296) (hby:i.bytes≤1024) :
  ∃ v w',(Builtin.append_ #[T,T] ty #[.slice a 0 0,.slice A m c]).run P w = .ok v w'∧w'.os=w.os∧w'.tape=w.tape∧w'.output=w.output∧w.heap.size≤w'.heap.size∧(∀ k,k<w.heap.size→w'.heap[k]? = w.heap[k]?) ∧
   ((m=0∧v = .slice a 0 0)∨(∃ cap' vs,v = .slice (some ⟨w.heap.size,0,none⟩) m cap'∧w'.heap[w.heap.size]? = some (.cells vs e (0,0))∧m≤cap'∧cap'≤maxLen∧vs.size=cap'*i.size∧vs.toList.take (m*i.size)=news)):=by
 rcases AqL m with h0|h0
 ·subst h0
  exact⟨_,w,Gu hu hi a (ApY _) A c,rfl,rfl,rfl,ApY _,fun _ _=>rfl,.inl ⟨rfl,rfl⟩⟩
 ·obtain⟨ad,rfl⟩:=Aq3.1 (hA h0)
  have hmb:m*i.bytes≤281474976710656:=AqN (Aq7 hfit hby) (by omega)
  have hge:=grownCap_ge w m 0 e
  have hle:=grownCap_le_maxLen w m 0 e (by simp only[maxLen];omega)
  have fin:∀ vs:Array Value,vs.toList=news++(Builtin.zeroCells z.cells (grownCap w m 0 e-m)).toList→vs.size=grownCap w m 0 e*i.size∧vs.toList.take (m*i.size)=news:=by
   intro vs hvs
   refine⟨?_,?_⟩
   ·rw[← Apl,hvs,ApS,hl,Apl,size_zeroCells,hzs,← AqW]
    congr 1;omega
   ·rw[hvs,← hl];exact Art
  cases a with
  |none=>
   have hr:=run_append_nil (P:=P) w T ty e i z hu hi hz ad m c news hl (hnews ad rfl) h0 (by omega) hmb
   obtain⟨f1,f2⟩:=fin (news.toArray++Builtin.zeroCells z.cells (grownCap w m 0 e-m)) (by simp)
   exact⟨_,_,hr,rfl,rfl,rfl,by simp,fun k hk=>heap_alloc_old w.drew _ k hk,.inr ⟨_,_,rfl,heap_alloc_new w.drew _,hge,hle,f1,f2⟩⟩
  |some b=>
   have hr:=run_append_grow (P:=P) w T ty e i z hu hi hz b 0 0 [] (by simp) (fun j v h=>by simp at h) ad m c news hl (hnews ad rfl) (by omega) (by omega) (by
    rw[Aqe]
    have:Builtin.nextslicecap m 0=m:=nextslicecap_zero h0
    rw[this];exact hmb)
   simp only[Aqe]at hr
   obtain⟨f1,f2⟩:=fin (([]:List Value).toArray++news.toArray++Builtin.zeroCells z.cells (grownCap w m 0 e-m)) (by simp)
   exact⟨_,_,hr,rfl,rfl,rfl,by simp,fun k hk=>heap_alloc_old w.drew _ k hk,.inr ⟨_,_,rfl,heap_alloc_new w.drew _,hge,hle,f1,f2⟩⟩
end
end Go.Pev
end
section
namespace Go.Pev
open Go.RowKit
section
variable {P:Program} {E:Env}
theorem ANH{H:List Ob}{fz:List Bool}{slot id:Nat}{T:TypeId}{t:Ty}{xs:List t.den}(hf:Au H fz slot=true)(ho:H[id]? = some (.arr T t xs)):slot≠id:=by
 rintro rfl
 rw[(BW hf).1]at ho;cases ho
theorem FG{w:World}{F:Nat→Prop}{m:Mp}{H:List Ob}{fz:List Bool}(hi:HI w F m H fz){slot:Nat}(hf:Au H fz slot=true){T e ty:TypeId}{t:Ty}{i:TypeInfo}{z:Value}(hu:P.underlying T=some (.slice e))
  (hi0:P.info? e=some i) (hz:i.zero=some z) (hzs:z.cells.size=i.size) (hsz:i.size=t.size) (hpos:0<t.size) (hby:i.bytes≤1024) {ys:List t.den} (hfit:ys.length≤4294967296) (a:Option Addr)
  {A:Option Addr} {c:Nat} {news:List Value} (hA:ys≠[]→A.isSome=true) (hrows:rows (Dat w F t) ys news) (hnews:∀ ad,A=some ad→∀ j u,news[j]? = some u→w.cell? (ad.add j)=some u) :
  ∃ v w' m',(Builtin.append_ #[T,T] ty #[.slice a 0 0,.slice A ys.length c]).run P w = .ok v w'∧Av w F m H fz w' F m' (H.set slot (.arr e t ys)) fz∧Rep w' F m' (H.set slot (.arr e t ys)) (.own slot) v:=by
 have hk:=fun(x:t.den) cs (h:Dat w F t x cs)=>Dat.length t h
 have hl:=A7 hk hrows
 obtain⟨v,w',hrun,h1,h2,h3,h4,h5,h6⟩:=NI (P:=P) (w:=w) (ty:=ty) hu hi0 hz hzs a (A:=A) (m:=ys.length) (c:=c) (news:=news) (by rw[hl,hsz]) (fun h=>hA (by rintro rfl;simp at h)) hnews hfit hby
 rcases h6 with⟨h0,rfl⟩|⟨cap',vs,rfl,q1,q2,q3,q4,q5⟩
 ·have hy:ys=[]:=Apq h0
  subst hy
  have hgw:=Av.grow hi h1 h2 h3 h4 h5
  obtain⟨m',hg,hrep⟩:=DW hgw.2 hf e hpos a
  exact⟨_,w',m',hrun,hgw.trans hg,hrep⟩
 ·obtain⟨m',hg,hrep⟩:=E4 hi hf hpos q1 h1 h2 h3 h4 h5 q2 q3 (by rw[q4,hsz]) hrows (by rw[hl,← hsz];exact q5)
  exact⟨_,w',m',hrun,hg,hrep⟩
theorem AUd{w:World}{F:Nat→Prop}{m:Mp}{H:List Ob}{fz:List Bool}(hi:HI w F m H fz){slot:Nat}(hf:Au H fz slot=true){T e ty:TypeId}{t:Ty}{i:TypeInfo}{z:Value}(hu:P.underlying T=some (.slice e))
  (hi0:P.info? e=some i) (hz:i.zero=some z) (hzs:z.cells.size=i.size) (hsz:i.size=t.size) (hpos:0<t.size) (hby:i.bytes≤1024) {xs ys:List t.den} (hfit:xs.length+ys.length≤4294967296) (hne:ys≠[])
  {s:Value} (hs:Rep w F m H (.clip t xs) s) {A:Option Addr} {c:Nat} {news:List Value} (hA:ys≠[]→A.isSome=true) (hrows:rows (Dat w F t) ys news) (hnews:∀ ad,A=some ad→∀ j u,news[j]? = some u→w.cell? (ad.add j)=some u) :
  ∃ v w' m',(Builtin.append_ #[T,T] ty #[s,.slice A ys.length c]).run P w = .ok v w'∧Av w F m H fz w' F m' (H.set slot (.arr e t (xs++ys))) fz∧Rep w' F m' (H.set slot (.arr e t (xs++ys))) (.own slot) v:=by
 have hk:=fun(x:t.den) cs (h:Dat w F t x cs)=>Dat.length t h
 unfold Rep at hs
 obtain⟨⟨a0,cap0,q1,_,q3⟩,a,rfl⟩:=hs
 simp only[Apo,Value.slice.injEq,ArS]at q1
 obtain⟨rfl, -, -⟩:=q1
 by_cases hx:xs=[]
 ·subst hx
  exact FG hi hf hu hi0 hz hzs hsz hpos hby (by simpa using hfit) a hA hrows hnews
 obtain⟨ad,row,rfl,hF,hr0,hc0⟩:=q3 hx
 obtain⟨bd,rfl⟩:=Aq3.1 (hA hne)
 have hl:=A7 hk hrows
 have hrl:=A7 hk hr0
 have hy0:0<ys.length:=List.length_pos_iff.2 hne
 have hbytes:(xs.length+ys.length)*i.bytes≤140737488355328:=AqN (Aq7 hfit hby) (by omega)
 have hr:=run_append_grow (P:=P) w T ty e i z hu hi0 hz ad xs.length xs.length row (by rw[hrl,hsz]) hc0 bd ys.length c news (by rw[hl,hsz]) (hnews bd rfl) (by omega) (by omega) (growslice_fits (by omega) hbytes)
 have hge:=grownCap_ge w (xs.length+ys.length) xs.length e
 have hle:=grownCap_le_maxLen w (xs.length+ys.length) xs.length e (by simp only[maxLen];omega)
 have hlen:(row++news).length=(xs.length+ys.length)*t.size:=by rw[ApS,hrl,hl,AqW]
 obtain⟨m',hg,hrep⟩:=E4 hi hf (w':=w.drew.alloc (.cells (row.toArray++news.toArray++Builtin.zeroCells z.cells (grownCap w (xs.length+ys.length) xs.length e-(xs.length+ys.length))) e)) hpos (xs:=xs++ys) (heap_alloc_new w.drew _) rfl rfl rfl (by simp) (fun b hb=>heap_alloc_old w.drew _ b hb)
  (cap:=grownCap w (xs.length+ys.length) xs.length e) (by simpa using hge) hle (by
   rw[Array.size_append,Array.size_append,Aqg,Aqg,size_zeroCells,hzs,hsz,hrl,hl,← AqW,← AqW];congr 1;omega) (Jc hr0 hrows) (by
   rw[ArM,ArM];exact Art)
 rw[ApS]at hrep
 exact⟨_,_,m',hr,hg,hrep⟩
theorem YM{w:World}{F:Nat→Prop}{m:Mp}{H:List Ob}{fz:List Bool}(hi:HI w F m H fz){slot:Nat}(hf:Au H fz slot=true){T e ty:TypeId}{t:Ty}{i:TypeInfo}{z:Value}(hu:P.underlying T=some (.slice e))
  (hi0:P.info? e=some i) (hz:i.zero=some z) (hzs:z.cells.size=i.size) (hsz:i.size=t.size) (hpos:0<t.size) (hby:i.bytes≤1024) {id:Nat} {xs:List t.den} (ho:H[id]? = some (.arr e t xs)) (hun:Ap fz id=true)
  {b cap:Nat} (hm:m id=some (b,cap)) {n:Nat} (hn:n≤xs.length) {ys:List t.den} (hfit:n+ys.length≤4294967296)
  {A:Option Addr} {c:Nat} {news:List Value} (hA:ys≠[]→A.isSome=true) (hrows:rows (Dat w F t) ys news) (hnews:∀ ad,A=some ad→∀ j u,news[j]? = some u→w.cell? (ad.add j)=some u) :
  ∃ v w' m',(Builtin.append_ #[T,T] ty #[.slice (some ⟨b,0,none⟩) n cap,.slice A ys.length c]).run P w = .ok v w' ∧
   Av w F m H fz w' F m' ((H.set id .dead).set slot (.arr e t (xs.take n++ys))) fz∧Rep w' F m' ((H.set id .dead).set slot (.arr e t (xs.take n++ys))) (.own slot) v:=by
 have hk:=fun(x:t.den) cs (h:Dat w F t x cs)=>Dat.length t h
 have hl:=A7 hk hrows
 obtain⟨_,hob⟩:=hi.obj id _ ho
 rw[hm]at hob
 obtain⟨vs,row,e1,e2,e3,e4,e5,e6⟩:=hob
 have hrl:=A7 hk e5
 have hold:vs.toList.take (n*i.size)=row.take (n*t.size):=by
  rw[← e6,Arf,hsz,Aqn (by rw[hrl];exact AqC _ hn)]
 obtain⟨v,w',hrun,hgr⟩:=AFY (P:=P) (w:=w) (ty:=ty) hu hi0 hz hzs (by omega) e1 (n:=n) (by omega) e3 (by rw[e4,hsz]) (A:=A) (m:=ys.length) (c:=c) (news:=news) (by rw[hl,hsz]) (fun h=>hA (by rintro rfl;simp at h)) hnews
  (fun u hu=>ABZ (fun x cs (h:Dat w F t x cs)=>Dat.IV t h) hrows u hu) hfit hby
 rw[hold]at hgr
 have hlen:(xs.take n++ys).length=n+ys.length:=by rw[ApS,Api];omega
 have hr0:=Jc (Df hk n e5) hrows
 have hcell:∀ a:Addr,F a.block→w'.cell? a=w.cell? a:=fun a ha=>by
  have h1:a.block≠b:=by rintro h;exact hi.off id b cap (CF ho hun) hm (h▸ha)
  simp[World.cell?,hgr.keep _ (hi.lt _ ha) (fun b' h=>by cases h;exact h1)]
 have hlts:=At (BW hf).1
 have hgs:((H.set id .dead).set slot (.arr e t (xs.take n++ys)))[slot]? = some (.arr e t (xs.take n++ys)):=BM (by simpa using hlts)
 have main:∀ (g cap':Nat) (vs':Array Value),(w.heap.size≤g∨g=b)→w'.heap[g]? = some (.cells vs' e (0,0))→n+ys.length≤cap'→cap'≤maxLen→vs'.size=cap'*t.size→vs'.toList.take ((n+ys.length)*t.size)=row.take (n*t.size)++news →
   ∃ m',Av w F m H fz w' F m' ((H.set id .dead).set slot (.arr e t (xs.take n++ys))) fz∧Rep w' F m' ((H.set id .dead).set slot (.arr e t (xs.take n++ys))) (.own slot) (.slice (some ⟨g,0,none⟩) (n+ys.length) cap'):=by
  intro g cap' vs' hg q1 q2 q3 q4 q5
  have:=Av.move (w':=w') hi (CF ho hun) hm hf (ob:=.arr e t (xs.take n++ys)) trivial (b':=g) (c':=cap') hg.symm hgr.os hgr.tape hgr.output hgr.size (fun k hk hne=>hgr.keep k hk (fun b' h=>by cases h;exact hne))
   (fun _=>⟨hpos,vs',row.take (n*t.size)++news,q1,by rw[hlen];exact q2,q3,q4,BN (fun x _ cs hx=>hx.mono hcell (fun _ h=>h) t) hr0,by
    have:(row.take (n*t.size)++news).length=(n+ys.length)*t.size:=by rw[A7 hk hr0,hlen]
    rw[this];exact q5⟩)
  refine⟨_,this,?_⟩
  unfold Rep
  rw[hgs,Ar,← hlen]
  rfl
 rcases hgr.res with⟨h0,rfl,rfl⟩|⟨g,cap',vs',rfl,q1,q2,q3,q4,q5,q6⟩
 ·have hy:ys=[]:=Apq h0
  subst hy
  obtain⟨m',hg,hrep⟩:=main b cap vs (.inr rfl) e1 (by simp;omega) e3 e4 (by
   cases hrows
   rw[Aqa,Apk,Aqp]
   rw[hsz]at hold
   exact hold)
  exact⟨_,_,m',hrun,hg,by simpa using hrep⟩
 ·obtain⟨m',hg,hrep⟩:=main g cap' vs' (by rcases q6 with h|h;exact .inl h;cases h;exact .inr rfl) q1 q2 q3 (by rw[q4,hsz]) (by rw[← hsz]at *;exact q5)
  exact⟨_,_,m',hrun,hg,hrep⟩
theorem ANQ{w w':World}{ρc:Operand→Value}{o:Oper}{T T':TypeId}{s x:Operand}{v n u:Value}(hop:o.op = .call { callee:=.builtin .append,args:=#[s,x],argTypes:=#[T,T'] })(e1:ρc s=v)(e2:ρc x=n)
  (hrun:(Builtin.append_ #[T,T'] o.type #[v,n]).run P w = .ok u w'):(execOp ρc o).run P w = .ok (.value u) w':=by simp[execOp,hop,resolve,invoke,builtin,e1,e2,hrun]
theorem AUb{w:World}{F:Nat→Prop}{m:Mp}{H:List Ob}{fz:List Bool}(hi:HI w F m H fz){slot:Nat}(hf:Au H fz slot=true){T T' e ty:TypeId}{t:Ty}{i:TypeInfo}{z:Value}(hu:P.underlying T=some (.slice e))
  (hi0:P.info? e=some i) (hz:i.zero=some z) (hok:Bp (zeroCells t) z.cells.toList=true) (hsz:i.size=t.size) (hpos:0<t.size) (hby:i.bytes≤1024) {kt kx:IntKind} (hk:P.underlying T'=some (.int kt)) {n:Nat} (hfit:n≤4294967296) :
  ∃ v w' m',(Builtin.append_ #[T,T'] ty #[.slice none 0 0,.int kx n]).run P w = .ok v w'∧Av w F m H fz w' F m' (H.set slot (.arr e t (List.replicate n t.zero))) fz∧Rep w' F m' (H.set slot (.arr e t (List.replicate n t.zero))) (.own slot) v:=by
 have hzd:=B8 (w:=w) (F:=F) t _ hok
 have hzl:z.cells.size=t.size:=by rw[← Apl];exact Dat.length t hzd
 have hw:IntKind.i64.wrap (n:Int)=n:=IntWalk.i64_in _ (by omega)
 have hbb:(n:Int)*(i.bytes:Int)≤281474976710656:=by
  have:n*i.bytes≤4294967296*1024:=Aq7 hfit hby
  have h2:((n*i.bytes:Nat):Int)≤281474976710656:=by omega
  rwa [ArK]at h2
 rcases AqL n with h0|h0
 ·subst h0
  obtain⟨m',hg,hrep⟩:=DW (w:=w) hi hf e hpos none
  refine⟨.slice none 0 0,w,m',?_,by simpa using hg,by simpa using hrep⟩
  have hw0:IntKind.i64.wrap 0=0:=hw
  simp[Builtin.append_,run_underlying hu,run_underlying hk,sizeOf,typeInfo,hi0,asInt,asIntOf,hw0]
 ·have hge:=grownCap_ge w n 0 e
  have hle:=grownCap_le_maxLen w n 0 e (by simp only[maxLen];omega)
  have hrows:=Ew (w:=w) (F:=F) hzd n
  have hrl:=A7 (fun x cs (h:Dat w F t x cs)=>Dat.length t h) hrows
  rw[AqD]at hrl
  have hcells:∀ k,(Builtin.zeroCells z.cells k).toList=(List.replicate k z.cells.toList).flatten:=Dh z.cells
  have hrun:(Builtin.append_ #[T,T'] ty #[.slice none 0 0,.int kx n]).run P w = .ok (.slice (some ⟨w.heap.size,0,none⟩) n (grownCap w n 0 e)) (w.drew.alloc (.cells (Builtin.zeroCells z.cells n++Builtin.zeroCells z.cells (grownCap w n 0 e-n)) e)):=by
   have hn:n≠0:=by omega
   have hn2:¬ ((n:Int)<0):=by omega
   have hn3:¬ (281474976710656<(n:Int)*(i.bytes:Int)):=by omega
   have h63':¬ (9223372036854775807<(n:Int)):=by omega
   have h48':¬ (281474976710656<Builtin.nextslicecap n 0*i.bytes):=by
    rw[nextslicecap_zero h0]
    have:n*i.bytes≤4294967296*1024:=Aq7 hfit hby
    omega
   have hsz0:¬ (i.size=0):=by omega
   simp[Builtin.append_,run_underlying hu,run_underlying hk,sizeOf,typeInfo,zeroValue,hi0,hz,asInt,asIntOf,hw,hn,hn2,hn3,h63',h48',Question.forced,run_firstCells_none,newRow,grownCap]
   intro h
   have:n*i.size≠0:=Nat.mul_ne_zero hn hsz0
   omega
  obtain⟨m',hg,hrep⟩:=E4 hi hf (w':=w.drew.alloc (.cells (Builtin.zeroCells z.cells n++Builtin.zeroCells z.cells (grownCap w n 0 e-n)) e)) hpos (xs:=List.replicate n t.zero) (heap_alloc_new w.drew _) rfl rfl rfl (by simp) (fun b hb=>heap_alloc_old w.drew _ b hb)
   (cap:=grownCap w n 0 e) (by simpa using hge) hle (by
    rw[Array.size_append,size_zeroCells,size_zeroCells,hzl,← AqW];congr 1;omega) hrows (by
    rw[hrl,ArM,hcells,← hrl,Art])
  rw[AqD]at hrep
  exact⟨_,_,m',hrun,hg,hrep⟩
end
end Go.Pev
end
section
namespace Go.Pev
open Go.RowKit
section
variable {P:Program}
theorem AG1{H:List Ob}{fz:List Bool}{ids:List Nat}{i:Nat}(h:owned H (Al ids fz) i):owned H fz i:=by
 unfold owned at *
 cases ho:H[i]? with
 |none=>rw[ho]at h;exact h.elim
 |some o=>
  rw[ho]at h
  cases o with
  |free=>exact h.elim
  |dead=>exact h.elim
  |box cs=>trivial
  |map k v es=>trivial
  |prs T t is=>trivial
  |arr T t xs=>
   simp only at h ⊢
   rw[A2]at h
   simp only[Bool.or_eq_false_iff]at h
   exact h.1
theorem AIw{w w':World}{F:Nat→Prop}{m:Mp}{H:List Ob}{fz:List Bool}(hi:HI w F m H fz){id:Nat}{e:TypeId}{t:Ty}{xs:List t.den}(ho:H[id]? = some (.arr e t xs))(hun:Ap fz id=true)
  (os:w'.os=w.os) (tape:w'.tape=w.tape) (output:w'.output=w.output) (size:w.heap.size≤w'.heap.size) (G:Nat→Prop)
  (hG:∀ k,G k→k<w'.heap.size∧((∃ c,m id=some (k,c))∨w.heap.size≤k)) (hb:∀ b c,m id=some (b,c)→G b)
  (hkeep:∀ k,k<w.heap.size→(∀ c,m id≠some (k,c))→w'.heap[k]? = w.heap[k]?)
  (hob:ObI w' (fun k=>F k∨G k) m H (.arr e t xs) (m id)):Av w F m H fz w' (fun k=>F k∨G k) m H (Al [id] fz):=by
 have hid:=CF ho hun
 have hown:∀ i,owned H (Al [id] fz) i→owned H fz i∧i≠id:=by
  intro i h
  refine⟨AG1 h,?_⟩
  rintro rfl
  unfold owned at h
  rw[ho]at h
  simp only at h
  rw[A2]at h
  have hl:i<fz.length:=by rw[← hi.len];exact At ho
  simp[hl]at h
 have hcell:∀ a:Addr,F a.block→w'.cell? a=w.cell? a:=fun a ha=>by
  simp[World.cell?,hkeep _ (hi.lt _ ha) (fun c hc=>hi.off id _ c hid hc ha)]
 refine⟨⟨os,tape,output,size,fun b hb' hne=>hkeep b hb' (fun c hc=>hne id c hid hc),fun _ h=>.inl h,?_,fun i b c h1 h2=>.inl ⟨i,c,(hown i h1).1,h2⟩,C7.refl H m⟩,⟨?_,?_,?_,?_,?_,by rw[Ct];exact hi.len⟩⟩
 ·rintro b (h|h)
  ·exact .inl h
  ·rcases(hG b h).2 with⟨c,hc⟩|h
   ·exact .inr (.inl ⟨id,c,hid,hc⟩)
   ·exact .inr (.inr h)
 ·intro j o hj
  by_cases hji:j=id
  ·subst hji;rw[ho]at hj;cases hj;exact hob
  ·exact ObI.mono hcell (fun _ h=>.inl h) (C7.refl H m) (fun hf hd b c hl hlt=>hkeep b hlt (fun c' hc'=>hi.ne hid hc' hj hf hd hl hji rfl)) (hi.obj j o hj)
 ·exact fun i j b c b' c' h1 h2=>hi.sep i j b c b' c' (hown i h1).1 (hown j h2).1
 ·rintro i b c h1 h2 (hF|hg)
  ·exact hi.off i b c (hown i h1).1 h2 hF
  ·rcases(hG b hg).2 with⟨c',hc'⟩|h
   ·exact hi.sep i id b c b c' (hown i h1).1 hid (hown i h1).2 h2 hc' rfl
   ·have:=hi.Mk (hown i h1).1 h2;omega
 ·intro i T t' xs' b c hio hf hmi
  by_cases hii:i=id
  ·subst hii;exact .inr (hb b c hmi)
  ·refine .inl (hi.froz i T t' xs' b c hio ?_ hmi)
   rw[A2]at hf
   simpa [hii]using hf
 ·rintro b (h|h)
  ·exact ArA (hi.lt b h) size
  ·exact(hG b h).1
theorem AkV{w':World}{F':Nat→Prop}{m:Mp}{H:List Ob}{g cap:Nat}{vs:Array Value}{e:TypeId}{t:Ty}{zs:List t.den}{row:List Value}(hg:w'.heap[g]? = some (.cells vs e (0,0)))(ht:vs.toList.take row.length=row)
  (hrows:rows (Dat w' F' t) zs row) (hle:zs.length≤cap) (hF:F' g) {n:Nat} (hn:n=zs.length):Rep w' F' m H (.data (.slice t) zs) (.slice (some ⟨g,0,none⟩) n cap):=by
 subst hn
 unfold Rep
 show Dat w' F' (.slice t) zs [_]
 refine⟨some ⟨g,0,none⟩,cap,rfl,hle,fun _=>⟨⟨g,0,none⟩,row,rfl,hF,hrows,fun j u hj => ?_⟩⟩
 rw[Addr.add_lit,Aqe]
 have hj':vs.toList[j]? = some u:=by
  rw[← ht,AqK]at hj
  split at hj
  ·exact hj
  ·cases hj
 rw[Arj]at hj'
 simp[World.cell?,hg,hj']
theorem AUc{w:World}{F:Nat→Prop}{m:Mp}{H:List Ob}{fz:List Bool}(hi:HI w F m H fz){T e ty:TypeId}{t:Ty}{i:TypeInfo}{z:Value}(hu:P.underlying T=some (.slice e))
  (hi0:P.info? e=some i) (hz:i.zero=some z) (hzs:z.cells.size=i.size) (hsz:i.size=t.size) (hpos:0<t.size) (hby:i.bytes≤1024) {id:Nat} {xs:List t.den} (ho:H[id]? = some (.arr e t xs)) (hun:Ap fz id=true)
  {ys:List t.den} (hfit:xs.length+ys.length≤4294967296)
  {A:Option Addr} {c:Nat} {news:List Value} (hA:ys≠[]→A.isSome=true) (hrows:rows (Dat w F t) ys news) (hnews:∀ ad,A=some ad→∀ j u,news[j]? = some u→w.cell? (ad.add j)=some u)
  {s:Value} (hs:Rep w F m H (.own id) s) :
  ∃ v w' F',(Builtin.append_ #[T,T] ty #[s,.slice A ys.length c]).run P w = .ok v w'∧Av w F m H fz w' F' m H (Al [id] fz)∧Rep w' F' m H (.data (.slice t) (xs++ys)) v:=by
 have hk:=fun(x:t.den) cs (h:Dat w F t x cs)=>Dat.length t h
 have hl:=A7 hk hrows
 have hid:=CF ho hun
 unfold Rep at hs
 rw[ho]at hs
 have hob:=hi.obj id _ ho
 obtain⟨_,hob'⟩:=hob
 cases hm:m id with
 |none=>
  rw[hm]at hs hob'
  obtain⟨a,rfl⟩:=hs
  simp only at hob'
  subst hob'
  obtain⟨v,w',hrun,h1,h2,h3,h4,h5,h6⟩:=NI (P:=P) (w:=w) (ty:=ty) hu hi0 hz hzs a (A:=A) (m:=ys.length) (c:=c) (news:=news) (by rw[hl,hsz]) (fun h=>hA (by rintro rfl;simp at h)) hnews (by simpa using hfit) hby
  have hg:=AIw (w':=w') hi ho hun h1 h2 h3 h4 (fun k=>k=w.heap.size∧k<w'.heap.size) (fun k hk=>⟨hk.2,.inr (Nat.le_of_eq hk.1.symm)⟩) (fun b c h=>by rw[hm]at h;cases h) (fun k hk _=>h5 k hk) (by
   rw[hm];exact⟨hpos,rfl⟩)
  refine⟨v,w',_,hrun,hg,?_⟩
  rw[Ap9]
  rcases h6 with⟨h0,rfl⟩|⟨cap',vs,rfl,q1,q2,q3,q4,q5⟩
  ·have hy:ys=[]:=Apq h0
   subst hy
   unfold Rep
   exact⟨a,0,rfl,ApY _,fun h=>absurd rfl h⟩
  ·have hcell:∀ a:Addr,F a.block→w'.cell? a=w.cell? a:=fun a ha=>by simp[World.cell?,h5 _ (hi.lt _ ha)]
   exact AkV q1 (by rw[hl,← hsz];exact q5) (BN (fun x _ cs hx=>hx.mono hcell (fun _ h=>.inl h) t) hrows) q2 (.inr ⟨rfl,BQ q1⟩) rfl
 |some p=>
  obtain⟨b,cap⟩:=p
  rw[hm]at hs hob'
  simp only[Bh]at hs
  obtain⟨vs,row,e1,e2,e3,e4,e5,e6⟩:=hob'
  subst hs
  have hrl:=A7 hk e5
  have hblt:b<w.heap.size:=BQ e1
  have hG:∀ (w':World),w.heap.size≤w'.heap.size→∀ k,(k=b∨(k=w.heap.size∧k<w'.heap.size))→k<w'.heap.size∧((∃ c,m id=some (k,c))∨w.heap.size≤k):=by
   rintro w' h k (rfl|⟨h1,h2⟩)
   ·exact⟨ArA hblt h,.inl ⟨cap,hm⟩⟩
   ·exact⟨h2,.inr (Nat.le_of_eq h1.symm)⟩
  have main:∀ (w':World) (vs0:Array Value),w'.os=w.os→w'.tape=w.tape→w'.output=w.output→w.heap.size≤w'.heap.size→(∀ k,k<w.heap.size→k≠b→w'.heap[k]? = w.heap[k]?)→w'.heap[b]? = some (.cells vs0 e (0,0))→vs0.size=cap*t.size→vs0.toList.take row.length=row →
    (∀ a:Addr,F a.block→w'.cell? a=w.cell? a)∧Av w F m H fz w' (fun k=>F k∨(k=b∨(k=w.heap.size∧k<w'.heap.size))) m H (Al [id] fz):=by
   intro w' vs0 h1 h2 h3 h4 h5 h6 h7 h8
   have hcell:∀ a:Addr,F a.block→w'.cell? a=w.cell? a:=fun a ha=>by
    have h:a.block≠b:=by rintro h;exact hi.off id b cap hid hm (h▸ha)
    simp[World.cell?,h5 _ (hi.lt _ ha) h]
   refine⟨hcell,AIw hi ho hun h1 h2 h3 h4 _ (hG w' h4) (fun b' c' h=>by rw[hm]at h;cases h;exact .inl rfl) (fun k hk hne=>h5 k hk (by rintro rfl;exact hne cap hm)) ?_⟩
   rw[hm]
   exact⟨hpos,vs0,row,h6,e2,e3,h7,BN (fun x _ cs hx=>hx.mono hcell (fun _ h=>.inl h) t) e5,h8⟩
  have hrr:=Jc e5 hrows
  have hlen:(row++news).length=(xs.length+ys.length)*t.size:=by rw[ApS,hrl,hl,AqW]
  have fin:∀ (w':World) (g cap':Nat) (vs':Array Value),(∀ a:Addr,F a.block→w'.cell? a=w.cell? a)→(g=b∨(g=w.heap.size∧g<w'.heap.size))→w'.heap[g]? = some (.cells vs' e (0,0))→xs.length+ys.length≤cap'→vs'.toList.take (row++news).length=row++news →
    Rep w' (fun k=>F k∨(k=b∨(k=w.heap.size∧k<w'.heap.size))) m H (.data (.slice t) (xs++ys)) (.slice (some ⟨g,0,none⟩) (xs.length+ys.length) cap'):=by
   intro w' g cap' vs' hcell hg hgv hle htk
   exact AkV hgv htk (BN (fun x _ cs hx=>hx.mono hcell (fun _ h=>.inl h) t) hrr) (by simpa using hle) (.inr hg) (by simp)
  cases A with
  |none=>
   have hy:ys=[]:=by
    cases ys with
    |nil=>rfl
    |cons a b=>exact absurd (hA (by simp)) (by simp)
   subst hy
   obtain⟨hc,hgo⟩:=main w vs rfl rfl rfl (ApY _) (fun _ _ _=>rfl) e1 e4 e6
   have hn0:news=[]:=Apq (by rw[hl];simp)
   subst hn0
   exact⟨_,w,_,Gu hu hi0 _ e2 none c,hgo,fin w b cap vs hc (.inl rfl) e1 (by simpa using e2) (by simpa using e6)⟩
  |some ad=>
   have hone:∀ u∈news,u.oneCell'=true:=fun u hu=>ABZ (fun x cs (h:Dat w F t x cs)=>Dat.IV t h) hrows u hu
   by_cases hroom:xs.length+ys.length≤cap
   ·have hnl:news.length=ys.length*i.size:=by rw[hl,hsz]
    have hsum:xs.length*i.size+news.length≤vs.size:=by
     rw[hnl,e4,hsz,← AqW];exact AqC _ hroom
    have hr:=run_append_room (P:=P) w T ty e i hu hi0 b xs.length cap vs e1 ad ys.length c news hnl (hnews ad rfl) hone hroom hsum
    have hrow:vs.toList.take (xs.length*i.size)=row:=by rw[hsz,← hrl];exact e6
    rw[hrow]at hr
    obtain⟨hc,hgo⟩:=main (w.setRow b (row++news++vs.toList.drop (xs.length*i.size+news.length)).toArray) (row++news++vs.toList.drop (xs.length*i.size+news.length)).toArray rfl rfl rfl (by simp) (fun k _ hk=>setRow_other w b k _ hk) (setRow_heap w b vs (row++news++vs.toList.drop (xs.length*i.size+news.length)).toArray e _ e1) (by
     simp only[Aqg,ApS,AqS,Apl]
     rw[hrl,e4]
     rw[hsz]at hsum ⊢
     rw[e4]at hsum
     omega) (by rw[Ap1];exact Art)
    exact⟨_,_,_,hr,hgo,fin _ b cap _ hc (.inl rfl) (setRow_heap w b vs _ e _ e1) hroom (by exact Art)⟩
   ·have hbytes:(xs.length+ys.length)*i.bytes≤140737488355328:=AqN (Aq7 hfit hby) (by omega)
    have holds:∀ j u,row[j]? = some u→w.cell? ((⟨b,0,none⟩:Addr).add j)=some u:=fun j u hj=>by
     rw[Addr.add_lit,Aqe]
     have hj':vs.toList[j]? = some u:=by
      rw[← e6,AqK]at hj
      split at hj
      ·exact hj
      ·cases hj
     rw[Arj]at hj'
     simp[World.cell?,e1,hj']
    have hr:=run_append_grow (P:=P) w T ty e i z hu hi0 hz ⟨b,0,none⟩ xs.length cap row (by rw[hrl,hsz]) holds ad ys.length c news (by rw[hl,hsz]) (hnews ad rfl) (by omega) (by omega) (growslice_fits (by omega) hbytes)
    obtain⟨hc,hgo⟩:=main (w.drew.alloc (.cells (row.toArray++news.toArray++Builtin.zeroCells z.cells (grownCap w (xs.length+ys.length) cap e-(xs.length+ys.length))) e)) vs rfl rfl rfl (by simp) (fun k hk _=>heap_alloc_old w.drew _ k hk) ((heap_alloc_old w.drew _ b hblt).trans e1) e4 e6
    have hge:=grownCap_ge w (xs.length+ys.length) cap e
    exact⟨_,_,_,hr,hgo,fin _ w.heap.size _ _ hc (.inr ⟨rfl,BQ (heap_alloc_new w.drew _)⟩) (heap_alloc_new w.drew _) hge (by
     rw[ArM,ArM];exact Art)⟩
end
end Go.Pev
end
section
namespace Go.Pev
open Go.RowKit
section
variable {P:Program}
theorem Ans{w:World}{F:Nat→Prop}{m:Mp}{H:List Ob}{fz:List Bool}(hi:HI w F m H fz){id:Nat}{T:TypeId}{tgt:Nat}{is:List Int}(ho:H[id]? = some (.prs T tgt is)){v:Value}(hv:Rep w F m H (.own id) v):
  ∃ A c,v = .slice A is.length c∧(is≠[]→A.isSome=true)∧∃ us,Ag w F m H (FY tgt is) us∧(∀ u∈us,u.oneCell'=true)∧∀ ad,A=some ad→∀ j u,us[j]? = some u→w.cell? (ad.add j)=some u:=by
 have hob:=hi.obj id _ ho
 unfold Rep at hv
 rw[ho]at hv
 cases hm:m id with
 |none=>
  rw[hm]at hv hob
  obtain⟨a,rfl⟩:=hv
  have hob:is=[]:=hob
  subst hob
  exact⟨a,0,rfl,fun h=>absurd rfl h,[],by show Ag w F m H [] [];unfold Ag;rfl,(by simp),fun _ _ j u h=>by simp at h⟩
 |some p=>
  obtain⟨b,cap⟩:=p
  rw[hm]at hv hob
  simp only[Bh]at hv
  obtain⟨vs,us,e1,e2,e3,e4,e5,e6,e7⟩:=hob
  refine⟨some ⟨b,0,none⟩,cap,hv,fun _=>rfl,us,e5,e6,fun ad h j u hu => ?_⟩
  cases h
  rw[DE,Dr e1]
  have:=Cj e7 hu
  rw[← this];congr 1;omega
theorem J7{w:World}{F:Nat→Prop}{m:Mp}{H:List Ob}{fz:List Bool}(hi:HI w F m H fz){slot:Nat}(hf:Au H fz slot=true){T e ty:TypeId}{i:TypeInfo}{z:Value}(hu:P.underlying T=some (.slice e))
  (hi0:P.info? e=some i) (hz:i.zero=some z) (hzs:z.cells.size=1) (hsz:i.size=1) (hby:i.bytes≤1024) {tgt:Nat} {ys:List Int} (hfit:ys.length≤4294967296) (a:Option Addr)
  {A:Option Addr} {c:Nat} {news:List Value} (hA:ys≠[]→A.isSome=true) (hr:Ag w F m H (FY tgt ys) news) (hone:∀ u∈news,u.oneCell'=true) (hnews:∀ ad,A=some ad→∀ j u,news[j]? = some u→w.cell? (ad.add j)=some u) :
  ∃ v w' m',(Builtin.append_ #[T,T] ty #[.slice a 0 0,.slice A ys.length c]).run P w = .ok v w'∧Av w F m H fz w' F m' (H.set slot (.prs e tgt ys)) fz∧Rep w' F m' (H.set slot (.prs e tgt ys)) (.own slot) v:=by
 have hl:news.length=ys.length:=by rw[Aq hr,ABt]
 obtain⟨v,w',hrun,h1,h2,h3,h4,h5,h6⟩:=NI (P:=P) (w:=w) (ty:=ty) hu hi0 hz (by rw[hzs,hsz]) a (A:=A) (m:=ys.length) (c:=c) (news:=news) (by rw[hl,hsz];omega) (fun h=>hA (by rintro rfl;simp at h)) hnews hfit hby
 rcases h6 with⟨h0,rfl⟩|⟨cap',vs,rfl,q1,q2,q3,q4,q5⟩
 ·have hy:ys=[]:=Apq h0
  subst hy
  have hgw:=Av.grow hi h1 h2 h3 h4 h5
  obtain⟨m',hg,hrep⟩:=AHC hgw.2 hf e tgt a
  exact⟨_,w',m',hrun,hgw.trans hg,hrep⟩
 ·obtain⟨m',hg,hrep⟩:=Rf hi hf q1 h1 h2 h3 h4 h5 q2 q3 (by rw[q4,hsz];omega) hr hone (by rw[hsz,Nat.mul_one]at q5;rw[hl];exact q5)
  exact⟨_,w',m',hrun,hg,hrep⟩
theorem ZE{w:World}{F:Nat→Prop}{m:Mp}{H:List Ob}{fz:List Bool}(hi:HI w F m H fz){slot:Nat}(hf:Au H fz slot=true){T e ty:TypeId}{i:TypeInfo}{z:Value}(hu:P.underlying T=some (.slice e))
  (hi0:P.info? e=some i) (hz:i.zero=some z) (hzs:z.cells.size=1) (hsz:i.size=1) (hby:i.bytes≤1024) {tgt id:Nat} {xs:List Int} (ho:H[id]? = some (.prs e tgt xs))
  {b cap:Nat} (hm:m id=some (b,cap)) {ys:List Int} (hfit:xs.length+ys.length≤4294967296)
  {A:Option Addr} {c:Nat} {news:List Value} (hA:ys≠[]→A.isSome=true) (hr:Ag w F m H (FY tgt ys) news) (hone:∀ u∈news,u.oneCell'=true) (hnews:∀ ad,A=some ad→∀ j u,news[j]? = some u→w.cell? (ad.add j)=some u) :
  ∃ v w' m',(Builtin.append_ #[T,T] ty #[.slice (some ⟨b,0,none⟩) xs.length cap,.slice A ys.length c]).run P w = .ok v w' ∧
   Av w F m H fz w' F m' ((H.set id .dead).set slot (.prs e tgt (xs++ys))) fz∧Rep w' F m' ((H.set id .dead).set slot (.prs e tgt (xs++ys))) (.own slot) v:=by
 have hl:news.length=ys.length:=by rw[Aq hr,ABt]
 have hob:=hi.obj id _ ho
 rw[hm]at hob
 obtain⟨vs,us,e1,e2,e3,e4,e5,e6,e7⟩:=hob
 have hul:us.length=xs.length:=by rw[Aq e5,ABt]
 have hold:vs.toList.take (xs.length*i.size)=us:=by rw[hsz,Nat.mul_one,← hul];exact e7
 obtain⟨v,w',hrun,hgr⟩:=AFY (P:=P) (w:=w) (ty:=ty) hu hi0 hz (by rw[hzs,hsz]) (by omega) e1 (n:=xs.length) e2 e3 (by rw[e4,hsz];omega) (A:=A) (m:=ys.length) (c:=c) (news:=news) (by rw[hl,hsz];omega) (fun h=>hA (by rintro rfl;simp at h)) hnews
  hone hfit hby
 rw[hold]at hgr
 have hlen:(xs++ys).length=xs.length+ys.length:=ApS ..
 have hr0:Ag w F m H (FY tgt (xs++ys)) (us++news):=by rw[Ah8];exact Gn e5 hr
 have hone0:∀ u∈us++news,u.oneCell'=true:=fun u hu=>by
  rcases ApR.1 hu with h|h
  ·exact e6 u h
  ·exact hone u h
 have hlts:=At (BW hf).1
 have hgs:((H.set id .dead).set slot (.prs e tgt (xs++ys)))[slot]? = some (.prs e tgt (xs++ys)):=BM (by simpa using hlts)
 have hnl:(us++news).length=xs.length+ys.length:=by rw[ApS,hul,hl]
 have main:∀ (g cap':Nat) (vs':Array Value),(w.heap.size≤g∨g=b)→w'.heap[g]? = some (.cells vs' e (0,0))→xs.length+ys.length≤cap'→cap'≤maxLen→vs'.size=cap'→vs'.toList.take (xs.length+ys.length)=us++news →
   ∃ m',Av w F m H fz w' F m' ((H.set id .dead).set slot (.prs e tgt (xs++ys))) fz∧Rep w' F m' ((H.set id .dead).set slot (.prs e tgt (xs++ys))) (.own slot) (.slice (some ⟨g,0,none⟩) (xs.length+ys.length) cap'):=by
  intro g cap' vs' hg q1 q2 q3 q4 q5
  have:=Av.move (w':=w') hi (AId ho) hm hf (ob:=.prs e tgt (xs++ys)) trivial (b':=g) (c':=cap') hg.symm hgr.os hgr.tape hgr.output hgr.size (fun k hk hne=>hgr.keep k hk (fun b' h=>by cases h;exact hne))
   (fun hmono=>⟨vs',us++news,q1,by rw[hlen];exact q2,q3,q4,AUj hmono hr0,hone0,by rw[hnl];exact q5⟩)
  refine⟨_,this,?_⟩
  unfold Rep
  rw[hgs,Ar,← hlen]
  rfl
 rcases hgr.res with⟨h0,rfl,rfl⟩|⟨g,cap',vs',rfl,q1,q2,q3,q4,q5,q6⟩
 ·have hy:ys=[]:=Apq h0
  subst hy
  have hn0:news=[]:=Apq (by rw[hl];rfl)
  subst hn0
  obtain⟨m',hg,hrep⟩:=main b cap vs (.inr rfl) e1 (by simpa using e2) e3 e4 (by
   rw[Aqa,Apk,Aqp,← hul]
   exact e7)
  exact⟨_,_,m',hrun,hg,by simpa using hrep⟩
 ·obtain⟨m',hg,hrep⟩:=main g cap' vs' (by rcases q6 with h|h;exact .inl h;cases h;exact .inr rfl) q1 q2 q3 (by rw[q4,hsz];omega) (by rw[hsz,Nat.mul_one]at q5;exact q5)
  exact⟨_,_,m',hrun,hg,hrep⟩
end
end Go.Pev
end
