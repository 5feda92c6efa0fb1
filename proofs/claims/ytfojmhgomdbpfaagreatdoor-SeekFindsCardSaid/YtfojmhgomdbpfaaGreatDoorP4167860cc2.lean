/- A part of the proofs of this seat: ALIAS PevGlob PevDefs PevEval PevLoop PevSem PevStep PevConv PevRun PevOps PevPrs0 PevRows PevOps2 PevOps3 PevOps4 PevOps5. -/
import Derived.Calls
import Derived.Laws.Sem
import Derived.Orders
import Derived.Below
import Derived.Laws.AppendOwn
import Derived.Laws.Entries
import Derived.Maps.AppendAt
import Derived.Laws.Small
import Derived.Laws.StructEq
set_option linter.unusedVariables false
set_option linter.unusedSimpArgs false
set_option linter.unusedSectionVars false
set_option maxRecDepth 100000
section
namespace Go.Pev
abbrev Aeo:=@decide_eq_false
abbrev Aep:=@Option.some.injEq
abbrev Aeq:=@decide_eq_true
abbrev Aer:=@decide_eq_true_eq
abbrev Aes:=@List.getD_eq_getElem?_getD
abbrev Aet:=@Bool.and_eq_true
abbrev Aeu:=@List.mem_append
abbrev Aev:=@List.getElem?_eq_getElem
abbrev Aew:=@List.mem_cons
abbrev Aex:=@List.length_cons
abbrev Aey:=@List.length_append
abbrev Aez:=@Nat.le_refl
abbrev Ae0:=@Bool.not_true
abbrev Ae1:=@Int.eq_ofNat_of_zero_le
abbrev Ae2:=@decide_true
abbrev Ae3:=@if_neg
abbrev Ae4:=@Option.map_eq_some_iff
abbrev Ae5:=@List.mem_of_getElem?
abbrev Ae6:=@if_pos
abbrev Ae7:=@Array.length_toList
abbrev Ae8:=@List.length_take
abbrev Ae9:=@if_false
abbrev AfA:=@List.eq_nil_of_length_eq_zero
abbrev AfB:=@List.mem_map
abbrev AfC:=@List.cons.injEq
abbrev AfD:=@Bool.false_eq_true
abbrev AfE:=@List.all_eq_true
abbrev AfF:=@List.mem_cons_of_mem
abbrev AfG:=@decide_false
abbrev AfH:=@List.mem_singleton
abbrev AfI:=@List.length_nil
abbrev AfJ:=@Prod.mk.injEq
abbrev AfK:=@List.cons_append
abbrev AfL:=@List.getElem?_eq_none
abbrev AfM:=@List.getElem?_append_left
abbrev AfN:=@Option.getD_some
abbrev AfO:=@List.nodup_cons
abbrev AfP:=@List.map_cons
abbrev AfQ:=@List.nil_append
abbrev AfR:=@List.getElem?_append_right
abbrev AfS:=@if_true
abbrev AfT:=@Bool.not_false
abbrev AfU:=@List.mem_filter
abbrev AfV:=@Ne.symm
abbrev AfW:=@List.length_drop
abbrev AfX:=@Option.bind_eq_some_iff
abbrev AfY:=@List.getElem?_cons_zero
abbrev AfZ:=@Option.bind_some
abbrev Afa:=@Nat.lt_or_ge
abbrev Afb:=@List.getElem?_set_ne
abbrev Afc:=@Array.getD_eq_getD_getElem?
abbrev Afd:=@List.getElem?_take
abbrev Afe:=@List.pairwise_cons
abbrev Aff:=@decide_eq_false_iff_not
abbrev Afg:=@List.take_of_length_le
abbrev Afh:=@List.drop_eq_getElem_cons
abbrev Afi:=@Nat.min_eq_left
abbrev Afj:=@List.foldl_cons
abbrev Afk:=@Nat.mul_le_mul_right
abbrev Afl:=@Classical.byContradiction
abbrev Afm:=@List.take_append_drop
abbrev Afn:=@Int.toNat_natCast
abbrev Afo:=@List.getElem?_drop
abbrev Afp:=@Nat.add_mul
abbrev Afq:=@Nat.zero_add
abbrev Afr:=@List.length_range
abbrev Afs:=@Option.some.inj
abbrev Aft:=@List.append_assoc
abbrev Afu:=@List.length_replicate
abbrev Afv:=@Nat.le_trans
abbrev Afw:=@Bool.or_eq_true
abbrev Afx:=@List.append_nil
abbrev Afy:=@List.getElem?_eq_some_iff
abbrev Afz:=@Array.getElem?_eq_getElem
abbrev Af0:=@List.drop_of_length_le
abbrev Af1:=@Nat.eq_of_beq_eq_true
abbrev Af2:=@List.filter_cons
abbrev Af3:=@decide_eq_decide
abbrev Af4:=@List.getElem?_map
abbrev Af5:=@congrArg
abbrev Af6:=@Nat.lt_of_lt_of_le
abbrev Af7:=@Nat.eq_zero_or_pos
abbrev Af8:=@List.getElem?_set_self
abbrev Af9:=@decide_eq_true_iff
abbrev AgA:=@List.length_map
abbrev AgB:=@Bool.and_self
abbrev AgC:=@List.range_succ
abbrev AgD:=@List.take_length
abbrev AgE:=@Option.isSome_iff_exists
abbrev AgF:=@Array.toList_map
abbrev AgG:=@List.take_succ_eq_append_getElem
abbrev AgH:=@List.length_filter_le
abbrev AgI:=@Bool.not_eq_true'
abbrev AgJ:=@List.size_toArray
abbrev AgK:=@not_true_eq_false
abbrev AgL:=@List.pairwise_map
abbrev AgM:=@List.mem_range
abbrev AgN:=@Nat.add_zero
abbrev AgO:=@List.mem_of_mem_drop
abbrev AgP:=@List.map_append
abbrev AgQ:=@List.getElem_mem
abbrev AgR:=@List.pairwise_iff_getElem
abbrev AgS:=@List.getElem_of_mem
abbrev AgT:=@List.flatMap_cons
abbrev AgU:=@beq_iff_eq
abbrev AgV:=@Nat.one_mul
abbrev AgW:=@List.contains_eq_mem
abbrev AgX:=@List.any_eq_true
abbrev AgY:=@List.perm_append_comm
abbrev AgZ:=@Nat.le_of_lt
abbrev Aga:=@Nat.sub_self
abbrev Agb:=@List.eq_of_mem_replicate
abbrev Agc:=@List.filter_append
abbrev Agd:=@List.not_mem_nil
abbrev Age:=@List.mem_of_mem_take
abbrev Agf:=@List.drop_drop
abbrev Agg:=@Array.toArray_toList
abbrev Agh:=@List.getLast?_concat
abbrev Agi:=@List.ext_getElem?
abbrev Agj:=@List.nodup_append
abbrev Agk:=@Array.toList_append
abbrev Agl:=@Array.toList_modify
abbrev Agm:=@List.map_nil
abbrev Agn:=@List.drop_one
abbrev Ago:=@Int.tdiv_eq_ediv_of_nonneg
abbrev Agp:=@List.take_append
abbrev Agq:=@List.drop_zero
abbrev Agr:=@List.tail_cons
abbrev Ags:=@List.mem_take_iff_getElem
abbrev Agt:=@Bool.or_eq_false_iff
abbrev Agu:=@List.flatten_cons
abbrev Agv:=@of_decide_eq_true
abbrev Agw:=@Bool.true_and
abbrev Agx:=@false_and
abbrev Agy:=@List.getElem?_cons_succ
abbrev Agz:=@List.take_take
abbrev Ag0:=@beq_self_eq_true
abbrev Ag1:=@List.findIdx_lt_length
abbrev Ag2:=@Nat.le_of_eq
abbrev Ag3:=@Option.map_some
abbrev Ag4:=@Array.getElem?_toList
abbrev Ag5:=@List.singleton_append
abbrev Ag6:=@true_and
abbrev Ag7:=@Array.toList_push
abbrev Ag8:=@List.findIdx_cons
abbrev Ag9:=@List.getLast?_append
abbrev AhA:=@Nat.mul_le_mul
abbrev AhB:=@Bool.false_and
abbrev AhC:=@Nat.max_eq_right
abbrev AhD:=@Nat.min_eq_right
abbrev AhE:=@List.getElem?_replicate
abbrev AhF:=@List.eraseIdx_cons_succ
abbrev AhG:=@List.length_set
abbrev AhH:=@Bool.eq_iff_iff
abbrev AhI:=@List.zip_cons_cons
abbrev AhJ:=@Nat.add_sub_cancel
abbrev AhK:=@Nat.max_eq_left
abbrev AhL:=@Nat.mul_one
abbrev AhM:=@or_false
abbrev AhN:=@List.getLast?_eq_some_getLast
abbrev AhO:=@Classical.not_not
abbrev AhP:=@Nat.zero_mul
abbrev AhQ:=@List.take_left
abbrev AhR:=@List.length_singleton
abbrev AhS:=@Nat.le_of_ble_eq_true
abbrev AhT:=@List.eraseIdx_sublist
abbrev AhU:=@List.take_eq_take_min
abbrev AhV:=@and_true
abbrev AhW:=@List.getElem?_modify
abbrev AhX:=@List.Pairwise.filter
abbrev AhY:=@List.pairwise_append
abbrev AhZ:=@List.getElem?_of_mem
abbrev Aha:=@Nat.pow_le_pow_right
abbrev Ahb:=@List.countP_cons
abbrev Ahc:=@Nat.zero_le
abbrev Ahd:=@List.filter_eq_self
abbrev Ahe:=@List.flatMap_append
abbrev Ahf:=@Array.mapM_eq_mapM_toList
abbrev Ahg:=@List.extract_eq_take_drop
abbrev Ahh:=@List.take_left'
abbrev Ahi:=@List.headD_cons
abbrev Ahj:=@List.append_of_mem
abbrev Ahk:=@Nat.lt_or_gt_of_ne
abbrev Ahl:=@List.getLast?_cons_cons
abbrev Ahm:=@List.filter_cons_of_pos
abbrev Ahn:=@List.filter_cons_of_neg
abbrev Aho:=@List.filter_congr
abbrev Ahp:=@Nat.lt_trichotomy
abbrev Ahq:=@Option.map_eq_none_iff
abbrev Ahr:=@Int.mul_add
abbrev Ahs:=@Int.mul_one
abbrev Aht:=@List.map_eq_append_iff
abbrev Ahu:=@Nat.add_assoc
abbrev Ahv:=@List.any_cons
abbrev Ahw:=@List.drop_append
abbrev Ahx:=@List.ext_getElem
abbrev Ahy:=@Nat.mod_eq_of_lt
abbrev Ahz:=@List.mem_flatten
abbrev Ah0:=@Option.getD_none
abbrev Ah1:=@List.range'_succ
abbrev Ah2:=@List.mem_flatMap
abbrev Ah3:=@List.nodup_range
end Go.Pev
end
section
namespace Go.Pev
def AWS:List Int:=[0,1,28,2,29,14,24,3,30,22,20,15,25,17,4,8,31,27,13,23,21,19,16,7,26,12,18,6,11,5,10,9]
def AHk:List (Nat×IntKind×List Int):=[(0,.u8,AWS)]
end Go.Pev
end
section
namespace Go.Pev
inductive Ty where
 |unit|bool
 |int (k:IntKind)
 |slice (e:Ty)
 |prod (a b:Ty)
 |arr (n:Nat) (e:Ty)
 |nul (e:Ty)
 |mapi (j:IntKind) (e:Ty)
 deriving DecidableEq
@[reducible] def Ty.den:Ty→Type
 |.unit=>Unit
 |.bool=>Bool
 |.int _=>Int
 |.slice e=>List e.den
 |.prod a b=>a.den×b.den
 |.arr _ e=>List e.den
 |.nul _=>Unit
 |.mapi _ e=>List (Int×e.den)
def Ty.size:Ty→Nat
 |.unit=>0
 |.bool=>1
 |.int _=>1
 |.slice _=>1
 |.prod a b=>a.size+b.size
 |.arr n e=>n*e.size
 |.nul _=>1
 |.mapi _ _=>1
def Ty.isAgg:Ty→Bool
 |.unit=>true
 |.prod _ _=>true
 |.arr _ _=>true
 |_=>false
def Ty.made(b:Bool):Ty→Ty
 |.slice e=>match b with
  |true=>.nul e
  |false=>.slice e
 |t=>t
def Ty.nul? : (t:Ty)→Option Ty
 |.nul e=>some e
 |_=>none
def Ty.zero:(t:Ty)→t.den
 |.unit=>()
 |.bool=>false
 |.int _=>(0:Int)
 |.slice _=>[]
 |.prod a b=>(a.zero,b.zero)
 |.arr n e=>List.replicate n e.zero
 |.nul _=>()
 |.mapi _ _=>[]
def Ty.flat:Ty→Bool
 |.unit=>true
 |.bool=>true
 |.int _=>true
 |.slice _=>false
 |.prod a b=>a.flat&&b.flat
 |.arr _ e=>e.flat
 |.nul _=>true
 |.mapi _ _=>false
inductive AV where
 |junk
 |data (t:Ty) (d:t.den)
 |nils (e:Ty)
 |agg (cs:List AV)
 |own (id:Nat)
 |win (id off n:Nat)
 |ptr (id off:Nat)
 |eptr (id i sub:Nat)
 |dptr (cs:List AV)
 |clo (f:FuncId) (caps:List AV)
 |bnd (f:FuncId) (fs:List AV)
 |str (xs:List Int)
 |clip (t:Ty) (xs:List t.den)
 |mp (id:Nat)
 |tup (vs:List AV)
 |rowp (id i ver:Nat)
 |glob (g:Nat)
 |aptr (id n:Nat)
 |nilp
def BA{α:Type}(xs:List α)(i:Nat)(x:α):List α:=xs.set i x
inductive RK where
 |arr (T:TypeId)
 |map (j:IntKind) (ks:List Int)
def RK.IW:RK→Bool
 |.arr _=>true
 |.map _ _=>false
def Cw(ks:List Int)(x:Int):Nat:=
 match ks with
 |[]=>0
 |k::ks=>if k=x then 0 else Cw ks x+1
def K7{α:Type}(xs:List α)(i:Nat)(x:α):List α:=if i<xs.length then xs.set i x else xs++[x]
def RK.put{α:Type}(K:RK)(xs:List α)(i:Nat)(x:α):List α:=
 match K with
 |.arr _=>BA xs i x
 |.map _ _=>K7 xs i x
inductive Ob where
 |free
 |dead
 |box (cs:List AV)
 |arr (T:TypeId) (t:Ty) (xs:List t.den)
 |map (k v:Ty) (es:List (k.den×v.den))
 |prs (T:TypeId) (tgt:Nat) (is:List Int)
 |rows (K:RK) (e:TypeId) (t:Ty) (xs:List (List t.den)) (ver:Nat) (out:Option Nat)
def FF(tgt:Nat)(is:List Int):List AV:=is.map fun i=>.eptr tgt i.toNat 0
def BS:Ob→Bool
 |.rows _ _ _ _ _ _=>false
 |_=>true
structure St where
 tmps:List AV
 heap:List Ob
 frz:List Bool
structure Eff where
 heap:Option (List Ob×List Bool):=none
 objs:List (Nat×Ob):=[]
 frz:List Nat:=[]
def AH{α:Type}(xs:List α):Int:=(xs.length:Int)
def AX{α:Type}(xs:List α)(i:Nat)(z:α):α:=xs.getD i z
def A9{α:Type}(xs ys:List α):List α:=xs++ys
def Bo{α:Type}(n:Nat)(xs:List α):List α:=xs.take n
def DI{α:Type}(off n:Nat)(xs:List α):List α:=(xs.drop off).take n
def Dy{α:Type}(n:Nat)(x:α):List α:=List.replicate n x
def AK(n:Int):Nat:=n.toNat
def Bm{α:Type}(off n:Nat)(z:α)(xs:List α):List α:=xs.take off++(List.replicate n z++xs.drop (off+n))
def ABC:Operand→Option ByteArray
 |.const (.string s)=>some s
 |_=>none
def bytesOf(s:ByteArray):List Int:=s.data.toList.map fun b=>(b.toNat:Int)
def AA5(xs:List Int):List Int:=xs.map fun n=>((UInt8.ofNat n.toNat).toNat:Int)
def Ce(a b:Int):Int:=if b<a then b else a
def imax(a b:Int):Int:=if b > a then b else a
noncomputable def lock{α:Type}(x:α):α:=Classical.choose (⟨x,rfl⟩:∃ y,y=x)
theorem AG{α:Type}(x:α):lock x=x:=Classical.choose_spec (⟨x,rfl⟩:∃ y,y=x)
class Lk where
 f:{α:Type}→α→α
noncomputable instance lockI:Lk:=⟨fun x=>lock x⟩
abbrev idI:Lk:=⟨fun x=>x⟩
theorem Z7:lockI=idI:=by
 unfold lockI idI
 congr
 funext α x
 exact AG x
def Oy{α:Type}(xs:List α)(i:Int):Option α:=if i<0 then none else xs[i.toNat]?
def idx[Lk]{α:Type}(xs:List α)(i:Int):Option α:=Lk.f (Oy xs i)
theorem idx_eq{α:Type}(xs:List α)(i:Int):idx xs i=Oy xs i:=AG _
def Nr{α:Type}(xs:List α)(l h:Int):Option (List α):=
 if 0≤l∧l≤h∧h≤xs.length then some ((xs.take h.toNat).drop l.toNat)else none
def CO[Lk]{α:Type}(xs:List α)(l h:Int):Option (List α):=Lk.f (Nr xs l h)
theorem W0{α:Type}(xs:List α)(l h:Int):CO xs l h=Nr xs l h:=AG _
def ilt[Lk](a b:Int):Bool:=Lk.f (decide (a<b))
def ile[Lk](a b:Int):Bool:=Lk.f (decide (a≤b))
def ieq[Lk](a b:Int):Bool:=Lk.f (a==b)
theorem Ai(a b:Int):ilt a b=decide (a<b):=AG _
theorem Az(a b:Int):ile a b=decide (a≤b):=AG _
def AZt(a b:Int):Bool:=decide (a<b)
def AZu(a b:Int):Bool:=decide (a≤b)
def AZv(a b:Int):Bool:=a==b
theorem B5(a b:Int):ieq a b=(a==b):=AG _
def Abf(a b:List Int):Bool:=a==b
def seq?[Lk](a b:List Int):Bool:=Lk.f (Abf a b)
theorem seq_eq(a b:List Int):seq? a b=Abf a b:=AG _
def BQ:(t:Ty)→t.den→List AV
 |.unit,_=>[]
 |.bool,b=>[.data .bool b]
 |.int k,n=>[.data (.int k) n]
 |.slice e,xs=>[.data (.slice e) xs]
 |.prod a b,d=>BQ a d.1++BQ b d.2
 |.arr n e,xs=>(List.range n).flatMap fun i=>BQ e (AX xs i e.zero)
 |.nul e,_=>[.nils e]
 |.mapi j e,es=>[.data (.mapi j e) es]
def zeroCells:Ty→List AV
 |.unit=>[]
 |.bool=>[.data .bool false]
 |.int k=>[.data (.int k) (0:Int)]
 |.slice e=>[.nils e]
 |.prod a b=>zeroCells a++zeroCells b
 |.arr n e=>(List.replicate n (zeroCells e)).flatten
 |.nul e=>[.nils e]
 |.mapi _ _=>[.junk]
def Ov(k:IntKind):List AV→Option (List Int)
 |[]=>some []
 |.data (.int j) n::r=>match decide (j=k),Ov k r with
  |true,some ns=>some (n::ns)
  |_,_=>none
 |_::_=>none
def cast{t t':Ty}(d:t.den):Option t'.den:=if h:t=t' then some (h▸d)else none
def Lb{t t':Ty}(d:List t.den):Option (List t'.den):=if h:t=t' then some (h▸d)else none
def DZ(H:List Ob)(t:Ty)(v:AV):Option (t.den×List Nat):=
 match v with
 |.data _ d=>(cast d:Option t.den).map fun x=>(x,[])
 |.clip e xs=>(cast (t:=.slice e) xs:Option t.den).map fun x=>(x,[])
 |.nils _=>match t with
  |.slice _=>some ([],[])
  |.nul _=>some ((),[])
  |_=>none
 |.own id=>match H[id]? with
  |some (.arr _ e xs)=>(cast (t:=.slice e) xs:Option t.den).map fun x=>(x,[id])
  |_=>none
 |.win id off n=>match H[id]? with
  |some (.arr _ e xs)=>(cast (t:=.slice e) (DI off n xs):Option t.den).map fun x=>(x,[id])
  |_=>none
 |.mp id=>match H[id]? with
  |some (.rows (.map j ks) _ e xs _ none)=>(cast (t:=.mapi j (.slice e)) (List.zip (β:=List e.den) ks xs):Option t.den).map fun x=>(x,[id])
  |_=>none
 |_=>none
def QN{α:Type}(one:List AV→Option (α×List Nat×List AV)):Nat→List AV→Option (List α×List Nat×List AV)
 |0,cs=>some ([],[],cs)
 |n+1,cs=>match one cs with
  |none=>none
  |some (x,f,cs)=>match QN one n cs with
   |none=>none
   |some (xs,g,cs)=>some (x::xs,f++g,cs)
def An(H:List Ob):(t:Ty)→List AV→Option (t.den×List Nat×List AV)
 |.unit,cs=>some ((),[],cs)
 |.bool,c::cs=>match DZ H .bool c with
  |none=>none
  |some (x,f)=>some (x,f,cs)
 |.int k,c::cs=>match DZ H (.int k) c with
  |none=>none
  |some (x,f)=>some (x,f,cs)
 |.slice e,c::cs=>match DZ H (.slice e) c with
  |none=>none
  |some (x,f)=>some (x,f,cs)
 |.prod a b,cs=>match An H a cs with
  |none=>none
  |some (x,f,cs)=>match An H b cs with
   |none=>none
   |some (y,g,cs)=>some ((x,y),f++g,cs)
 |.arr n e,cs=>QN (An H e) n cs
 |.nul e,c::cs=>match DZ H (.nul e) c with
  |none=>none
  |some (x,f)=>some (x,f,cs)
 |.mapi j e,c::cs=>match DZ H (.mapi j e) c with
  |none=>none
  |some (x,f)=>some (x,f,cs)
 |_,[]=>none
def asAgg(H:List Ob)(t:Ty)(v:AV):Option (t.den×List Nat):=
 match v with
 |.data _ d=>(cast d:Option t.den).map fun x=>(x,[])
 |.agg cs=>match An H t cs with
  |some (x,f,[])=>some (x,f)
  |_=>none
 |_=>none
def EG(H:List Ob)(t:Ty)(v:AV):Option (t.den×List Nat):=
 match t.isAgg with
 |true=>asAgg H t v
 |false=>DZ H t v
def Vq(H:List Ob)(t:Ty)(v:AV):Option (t.den×List Nat):=
 match v with
 |.own id=>match H[id]? with
  |some (.rows (.arr _) _ e xs _ none)=>(cast (t:=.slice (.slice e)) xs:Option t.den).map fun x=>(x,[id])
  |_=>EG H t (.own id)
 |v=>EG H t v
@[reducible] def B7:List Ty→Type
 |[]=>Unit
 |t::ts=>t.den×B7 ts
abbrev Spec:=(R:Type)→List AV→List Ob→List Bool→Nat→(AV→Eff→Option R)→Option R
abbrev ANG:=(R:Type)→St→(Exit→St→Option R)→Option R
def WQ(P:Program):Nat→TypeId→Option Ty
 |0,_=>none
 |n+1,t=>match P.underlying t with
  |some .bool=>some .bool
  |some (.int k)=>some (.int k)
  |some (.slice e)=>(WQ P n e).map .slice
  |some (.array c e)=>(WQ P n e).map (.arr c)
  |some (.struct fs)=>(fs.toList.mapM fun f=>WQ P n f.type).map fun ts=>ts.foldr Ty.prod .unit
  |_=>none
def AE7(P:Program)(t:TypeId):Option Ty:=WQ P 12 t
def sliceAt(P:Program)(t:TypeId):Option (TypeId×Ty):=
 match P.underlying t with
 |some (.slice e)=>match AE7 P e with
  |some x=>match decide (0<x.size)with
   |true=>some (e,x)
   |false=>none
  |none=>none
 |_=>none
def D0(P:Program)(t:TypeId):Option Bool:=
 match P.underlying t with
 |some (.struct _)=>some true
 |some (.array _ _)=>some true
 |some _=>some false
 |none=>none
def Ct:AV→Value→Bool
 |.data .bool b,.bool c=>b==c
 |.data (.int k) n,.int k' m=>(decide (k=k'))&&(n==m)
 |.nils _,.slice none 0 0=>true
 |_,_=>false
def Bu:List AV→List Value→Bool
 |[],[]=>true
 |a::asz,v::vs=>Ct a v&&Bu asz vs
 |_,_=>false
def Sr:Value→Bool
 |.agg _=>true
 |_=>false
def zeroAt(P:Program)(T:TypeId):Option (Ty×List AV):=
 match AE7 P T,P.info? T with
 |some t,some i=>match i.zero with
  |some z=>if Bu (zeroCells t) z.cells.toList&&(i.size==t.size)&&(t.isAgg==Sr z)then some (t,zeroCells t)else none
  |none=>none
 |_,_=>none
def AH0:Value→AV
 |.bool b=>.data .bool b
 |.int k n=>.data (.int k) n
 |.slice none 0 0=>.nils .unit
 |.pointer none=>.nilp
 |.string s=>.str (bytesOf s)
 |_=>.junk
def BU(tmps:List AV):Operand→AV
 |.tmp t=>tmps.getD t .junk
 |.const v=>AH0 v
 |.func f=>.clo f []
 |.global g=>.glob g
def cells? : AV→Option (List AV)
 |.junk=>none
 |.tup _=>none
 |.data .unit _=>some []
 |.data (.prod a b) d=>some (BQ (.prod a b) d)
 |.data (.arr n e) d=>some (BQ (.arr n e) d)
 |.agg cs=>some cs
 |v=>some [v]
noncomputable def ARm(op:BinOp)(k:IntKind)(a b:Int):Option AV:=
 match op with
 |.add=>some (.data (.int k) (k.wrap (a+b)))
 |.sub=>some (.data (.int k) (k.wrap (a-b)))
 |.mul=>some (.data (.int k) (k.wrap (a*b)))
 |.and=>some (.data (.int k) (k.wrap (BitVec.ofInt k.bits a &&& BitVec.ofInt k.bits b).toNat))
 |.or=>some (.data (.int k) (k.wrap (BitVec.ofInt k.bits a ||| BitVec.ofInt k.bits b).toNat))
 |.xor=>some (.data (.int k) (k.wrap (BitVec.ofInt k.bits a ^^^ BitVec.ofInt k.bits b).toNat))
 |.andNot=>some (.data (.int k) (k.wrap (BitVec.ofInt k.bits a &&& ~~~(BitVec.ofInt k.bits b)).toNat))
 |.eql=>some (.data .bool (ieq a b))
 |.neq=>some (.data .bool (!(ieq a b)))
 |.lss=>some (.data .bool (ilt a b))
 |.leq=>some (.data .bool (ile a b))
 |.gtr=>some (.data .bool (ilt b a))
 |.geq=>some (.data .bool (ile b a))
 |_=>none
def R0(k:IntKind)(a b:Int):Option Int:=if b=0 then none else some (k.wrap (a.tdiv b))
def quo?[Lk](k:IntKind)(a b:Int):Option Int:=Lk.f (R0 k a b)
theorem Rz(k:IntKind)(a b:Int):quo? k a b=R0 k a b:=AG _
def Yk(a b:Int):Option Int:=if b=0 then none else some (a.tmod b)
def rem?[Lk](a b:Int):Option Int:=Lk.f (Yk a b)
theorem AGO(a b:Int):rem? a b=Yk a b:=AG _
def WS(k:IntKind)(a b:Int):Option Int:=if b<0 then none else some (k.wrap (a*2 ^ min b.toNat k.bits))
def shl?[Lk](k:IntKind)(a b:Int):Option Int:=Lk.f (WS k a b)
theorem YI(k:IntKind)(a b:Int):shl? k a b=WS k a b:=AG _
def ACL(k:IntKind)(a b:Int):Option Int:=if b<0 then none else some (a.fdiv (2 ^ min b.toNat k.bits))
def shr?[Lk](k:IntKind)(a b:Int):Option Int:=Lk.f (ACL k a b)
theorem AOR(k:IntKind)(a b:Int):shr? k a b=ACL k a b:=AG _
def N3(n:Int):Bool:=Nat.ble n.toNat 4294967296
theorem S8(n:Int):N3 n=true↔n≤4294967296:=by
 unfold N3
 rw[Nat.ble_eq]
 omega
def fits[Lk](n:Int):Bool:=Lk.f (N3 n)
theorem Acq(n:Int):fits n=N3 n:=AG _
theorem Ep(n:Int):fits n=true↔n≤4294967296:=by rw[Acq,S8]
def Kz(n:Int):Bool:=decide (0≤n)&&Nat.ble n.toNat 4294967296
theorem AQ3(n:Int):Kz n=true↔0≤n∧n≤4294967296:=by
 unfold Kz
 rw[Aet,Nat.ble_eq,Aer]
 omega
def E5[Lk](n:Int):Bool:=Lk.f (Kz n)
theorem AaO(n:Int):E5 n=Kz n:=AG _
theorem NS(n:Int):E5 n=true↔0≤n∧n≤4294967296:=by rw[AaO,AQ3]
def Kk(P:Program)(t:TypeId):Option IntKind:=
 match P.underlying t with
 |some (.int k)=>some k
 |_=>none
def DT(cs new:List AV)(off:Nat):Option (List AV):=
 if off+new.length≤cs.length then some (cs.take off++new++cs.drop (off+new.length))else none
def EF(place:Nat→Option (Nat×Nat)):List (Nat×AV)→List AV→Option (List AV)
 |[],cs=>some cs
 |(i,v)::rest,cs=>match place i with
  |none=>none
  |some (off,size)=>match cells? v with
   |none=>none
   |some vs=>match decide (vs.length=size)with
    |false=>none
    |true=>match DT cs vs off with
     |none=>none
     |some cs=>EF place rest cs
def fieldAt(P:Program)(T:TypeId)(f:Nat):Option (Nat×Nat×Bool):=
 match P.underlying T with
 |some (.struct fs)=>match fs[f]? with
  |some f=>match P.info? f.type,D0 P f.type with
   |some i,some ag=>some (f.offset,i.size,ag)
   |_,_=>none
  |none=>none
 |_=>none
def elemAt(P:Program)(T:TypeId):Option (Nat×Bool):=
 match P.underlying T with
 |some (.array _ e)=>match P.info? e,D0 P e with
  |some i,some ag=>some (i.size,ag)
  |_,_=>none
 |_=>none
def BI(P:Program)(T:TypeId):Option Nat:=(P.info? T).map (·.size)
def cellAt(P:Program)(T:TypeId):Option TypeId:=
 match P.underlying T with
 |some (.slice e)=>match P.info? e with
  |some i=>match i.zero with
   |some z=>match decide (i.size=1)&&(decide (z.cells.size=1)&&decide (i.bytes≤1024))with
    |true=>some e
    |false=>none
   |none=>none
  |none=>none
 |_=>none
def loadCells(agg:Bool)(size:Nat)(cs:List AV):Option AV:=
 match agg with
 |true=>if size≤cs.length then some (.agg (cs.take size))else none
 |false=>cs.head?
def AM{α β:Type}[DecidableEq α](es:List (α×β))(k:α):Option β:=
 match es with
 |[]=>none
 |(a,b)::es=>if a=k then some b else AM es k
def Ac{α β:Type}[DecidableEq α](es:List (α×β))(k:α)(v:β):List (α×β):=
 match es with
 |[]=>[(k,v)]
 |(a,b)::es=>if a=k then(a,v)::es else(a,b)::Ac es k v
def Dt{α β:Type}[DecidableEq α](es:List (α×β))(k:α):Option Nat:=
 match es with
 |[]=>none
 |(a,_)::es=>if a=k then some 0 else(Dt es k).map (· + 1)
def P8{α β:Type}[DecidableEq α](es:List (α×β))(k:α):Int:=((Dt es k).getD es.length:Nat)
def ALQ{α β:Type}(es:List (α×β))(i:Int)(v:β):List (α×β):=es.modify i.toNat fun e=>(e.1,v)
instance decDen:(t:Ty)→DecidableEq t.den
 |.unit=>inferInstanceAs (DecidableEq Unit)
 |.bool=>inferInstanceAs (DecidableEq Bool)
 |.int _=>inferInstanceAs (DecidableEq Int)
 |.slice e=>haveI:=decDen e;inferInstanceAs (DecidableEq (List e.den))
 |.prod a b=>@instDecidableEqProd _ _ (decDen a) (decDen b)
 |.arr _ e=>haveI:=decDen e;inferInstanceAs (DecidableEq (List e.den))
 |.nul _=>inferInstanceAs (DecidableEq Unit)
 |.mapi _ e=>haveI:=decDen e;inferInstanceAs (DecidableEq (List (Int×e.den)))
def IV(H:List Ob)(id:Nat):Bool:=
 match H[id]? with
 |some (.box _)=>true
 |_=>false
def Ci(H:List Ob)(id:Nat):Bool:=
 match H[id]? with
 |some (.arr _ _ _)=>true
 |_=>false
def FM(H:List Ob):AV→Bool
 |.data (.slice _) _=>true
 |.nils _=>true
 |.own id=>Ci H id
 |.win id _ _=>Ci H id
 |_=>false
def Qs:AV→Bool
 |.agg _=>true
 |.data t _=>t.isAgg
 |_=>false
def At(H:List Ob)(fz:List Bool)(slot:Nat):Bool:=
 match H[slot]? with
 |some .free => !(fz.getD slot false)
 |_=>false
def Af(fz:List Bool)(id:Nat):Bool := !(fz.getD id false)
noncomputable def Fp(H:List Ob)(sz:Option Nat)(x:AV)(lo hi:Option Int):(R:Type)→(AV→Option R)→Option R:=fun _ k=>
 match x with
 |.data (.slice e) xs=>match decide (sz=some e.size)with
  |true=>match CO xs (lo.getD 0) (hi.getD (AH xs))with
   |none=>none
   |some ys=>k (.data (.slice e) ys)
  |false=>none
 |.nils e=>match sz.isSome with
  |true=>match CO ([]:List Unit) (lo.getD 0) (hi.getD 0)with
   |some _=>k (.nils e)
   |none=>none
  |false=>none
 |.own id=>match H[id]? with
  |some (.arr _ e xs)=>match decide (sz=some e.size)with
   |true=>match CO xs (lo.getD 0) (hi.getD (AH xs))with
    |none=>none
    |some ys=>k (.win id (AK (lo.getD 0)) (AK (AH ys)))
   |false=>none
  |_=>none
 |.win id off n=>match H[id]? with
  |some (.arr _ e xs)=>match decide (sz=some e.size)with
   |true=>match CO (DI off n xs) (lo.getD 0) (hi.getD (n:Int))with
    |none=>none
    |some ys=>k (.win id (off+AK (lo.getD 0)) (AK (AH ys)))
   |false=>none
  |_=>none
 |_=>none
def AEJ:AV→Option Int
 |.data (.int _) n=>some n
 |_=>none
def EA(ρ:Operand→AV):Option Operand→Option (Option Int)
 |none=>some none
 |some x=>(AEJ (ρ x)).map some
end Go.Pev
end
section
namespace Go.Pev
noncomputable section
structure Env where
 spec:FuncId→Spec
 loc:FuncId→Bool
 loc2:FuncId→Bool
 keep:Bool:=false
 rows:Bool:=false
 arrs:Bool:=false
def A7:List (Nat×Ob)→List Ob→List Ob
 |[],H=>H
 |(i,o)::rest,H=>A7 rest (H.set i o)
def Ag:List Nat→List Bool→List Bool
 |[],F=>F
 |i::rest,F=>Ag rest (F.set i true)
structure Hints where
 fp:Nat→List (List Nat):=fun _=>[]
 loop:Nat→ANG:=fun _ _ _ _=>none
def slotsOf:Op→Nat
 |.alloc _=>1
 |.box ..=>1
 |.buildSlice ..=>1
 |.makeSlice ..=>1
 |.makeMap ..=>1
 |.slice _ _ _ _ (some _)=>1
 |.call { callee:=.builtin .append,.. }=>1
 |.call { callee:=.value _,.. }=>4
 |_=>0
def DG(H:List Ob)(t:Ty):List (Nat×AV)→List t.den→List Nat→Option (List t.den×List Nat)
 |[],xs,fr=>some (xs,fr)
 |(i,v)::rest,xs,fr=>match EG H t v,decide (i<xs.length)with
  |some (x,f),true=>DG H t rest (xs.set i x) (fr++f)
  |_,_=>none
def XF(P:Program)(T:TypeId):Bool:=
 match P.underlying T with
 |some (.slice e)=>match P.underlying e with
  |some (.int .u8)=>true
  |_=>false
 |_=>false
def ASD(P:Program)(T:TypeId):Bool:=
 match P.underlying T with
 |some .string=>true
 |_=>false
def AZg(P:Program)(T:TypeId):Option Ty:=
 match P.underlying T with
 |some (.int k)=>some (.int k)
 |_=>none
def AZN(P:Program)(T:TypeId):AV:=
 match sliceAt P T with
 |some (_,t)=>.nils t
 |none=>.nils .unit
def Lw(P:Program)(t:TypeId):Bool:=
 match P.underlying t with
 |some (.int _)=>true
 |some .bool=>true
 |_=>false
def DV(P:Program):List Field→Nat→Bool
 |[],_=>true
 | f :: fs, i => (f.name != "_") && (decide (f.offset = i) && (Lw P f.type && DV P fs (i + 1)))
def Hk(P:Program)(t:TypeId):Bool:=
 match P.underlying t with
 |some (.int _)=>true
 |_=>false
def structEq(P:Program)(T:TypeId):Option (List Bool):=
 match P.underlying T with
 |some (.struct fs)=>match !(P.eqGuardType P.depth T)&&(!(P.stoodInHeld T)&&DV P fs.toList 0)with
  |true=>some (fs.toList.map fun f=>Hk P f.type)
  |false=>none
 |_=>none
def Of(P:Program):List Field→Nat→Option (List Bool)
 |[],_=>some []
 | f :: fs, i => match (f.name != "_") && decide (f.offset = i) with
  |false=>none
  |true=>match Lw P f.type with
   |true=>(Of P fs (i+1)).map (Hk P f.type :: ·)
   |false=>match P.underlying f.type with
    |some (.struct gs)=>match !(P.stoodInHeld f.type)&&(DV P gs.toList 0&&decide (BI P f.type=some gs.size))with
     |true=>(Of P fs (i+gs.size)).map ((gs.toList.map fun g=>Hk P g.type) ++ ·)
     |false=>none
    |_=>none
def Rl(P:Program)(T:TypeId):Option (List Bool):=
 match P.underlying T with
 |some (.struct fs)=>match !(P.eqGuardType P.depth T) && !(P.stoodInHeld T)with
  |true=>Of P fs.toList 0
  |false=>none
 |_=>none
def AQY(P:Program)(T:TypeId):Option Nat:=
 match P.info? T with
 |some i=>match i.zero with
  |some z=>match z.cells.toList.all fun u=>u.oneCell' with
   |true=>some z.cells.size
   |false=>none
  |none=>none
 |none=>none
def kinds? : Ty→Option (List Bool)
 |.unit=>some []
 |.prod (.int _) r=>(kinds? r).map (true :: ·)
 |.prod .bool r=>(kinds? r).map (false :: ·)
 |_=>none
def QD(P:Program)(T:TypeId):Option Ty:=
 match P.underlying T with
 |some (.array n e)=>match decide (n=2),P.underlying e,decide (BI P e=some 1)with
  |true,some (.int k),true=>some (.prod (.int k) (.prod (.int k) .unit))
  |_,_,_=>none
 |_=>none
def VO(P:Program)(T:TypeId):Option Ty:=
 match AZg P T with
 |some t=>some t
 |none=>match structEq P T,AE7 P T with
  |some n,some t=>match decide (kinds? t=some n)with
   |true=>some t
   |false=>none
  |_,_=>QD P T
noncomputable def BJ:List Bool→List AV→List AV→Option Bool
 |[],[],[]=>some true
 |true::ks,.data (.int j) a::cs,.data (.int j') b::ds=>match decide (j=j'),BJ ks cs ds with
  |true,some r=>some (ieq a b&&r)
  |_,_=>none
 |false::ks,.data .bool a::cs,.data .bool b::ds=>match BJ ks cs ds with
  |some r=>some ((a==b)&&r)
  |none=>none
 |_,_,_=>none
def AYX(P:Program)(T:TypeId):Option (List AV):=
 match P.info? T,P.underlying T with
 |some i,some (.struct fs)=>match i.zero with
  |some z=>match(z.cells.toList.all fun u=>u.oneCell')&&fs.toList.all fun f=>(P.info? f.type).isSome with
   |true=>some (List.replicate z.cells.size .junk)
   |false=>none
  |none=>none
 |_,_=>none
def AdL(E:Env)(t:Ty):Option (Nat×Ty):=
 match E.arrs,t with
 |true,.arr n e=>match decide (0<n)&&(Nat.ble n 4294967296&&decide (0<e.size))with
  |true=>some (n,e)
  |false=>none
 |_,_=>none
def ABf(H:List Ob)(n:Nat)(v:AV):Option (Nat×Nat×Int):=
 match v with
 |.aptr id n'=>match H[id]? with
  |some (.arr _ t xs)=>match decide (n'=n)with
   |true=>some (id,t.size,AH xs)
   |false=>none
  |_=>none
 |_=>none
def gAt:AV→Option (IntKind×List Int)
 |.glob g=>(AHk.find? fun p=>p.1==g).map (·.2)
 |_=>none
def Oi(P:Program)(E:Env)(e:TypeId)(t:Ty)(n:Nat):Ob:=
 match E.rows,sliceAt P e with
 |true,some (e2,t2)=>.rows (.arr e) e2 t2 (Dy n []) 0 none
 |_,_=>.arr e (t.made E.keep) (Dy n (t.made E.keep).zero)
def evalOp(P:Program)(E:Env)(R:Type)(o:Op)(ty:TypeId)(ρ:Operand→AV)(H:List Ob)(fz:List Bool)(slot:Nat)(k:AV→Eff→Option R):Option R:=
 match o with
 |.move x|.assign x=>match ρ x with
  |.nils .unit=>k (AZN P ty) {}
  |v=>k v {}
 |.pick c a b=>match ρ c with
  |.data .bool true=>k (ρ a) {}
  |.data .bool false=>k (ρ b) {}
  |_=>none
 |.alloc T=>match zeroAt P T with
  |some (t,cs)=>(match At H fz slot with
   |true=>(match AdL E t with
    |some (n,e)=>k (.aptr slot n) { objs:=[(slot,.arr T e (Dy n e.zero))] }
    |none=>k (.ptr slot 0) { objs:=[(slot,.box cs)] })
   |false=>none)
  |none=>match AQY P T with
   |some n=>(match At H fz slot with|true=>k (.ptr slot 0) { objs:=[(slot,.box (List.replicate n .junk))] }|false=>none)
   |none=>none
 |.box T x=>match BI P T with
  |some n=>match cells? (ρ x)with
   |some vs=>match decide (vs.length=n)with
    |true=>(match At H fz slot with|true=>k (.ptr slot 0) { objs:=[(slot,.box vs)] }|false=>none)
    |false=>none
   |none=>none
  |none=>none
 |.build T parts=>match zeroAt P T with
  |some (_,cs)=>match P.underlying T with
   |some (.struct fs)=>match EF (fun i=>match fs[i]? with
     |some f=>(BI P f.type).map fun n=>(f.offset,n)
     |none=>none) (parts.toList.map fun p=>(p.1,ρ p.2)) cs with
    |some cs=>k (.agg cs) {}
    |none=>none
   |some (.array _ e)=>match BI P e with
    |some n=>match EF (fun i=>some (i*n,n)) (parts.toList.map fun p=>(p.1,ρ p.2)) cs with
     |some cs=>k (.agg cs) {}
     |none=>none
    |none=>none
   |_=>none
  |none=>match AYX P T,P.underlying T with
   |some cs,some (.struct fs)=>match EF (fun i=>match fs[i]? with
     |some f=>(BI P f.type).map fun n=>(f.offset,n)
     |none=>none) (parts.toList.map fun p=>(p.1,ρ p.2)) cs with
    |some cs=>k (.agg cs) {}
    |none=>none
   |_,_=>none
 |.buildSlice T len parts=>match sliceAt P T with
  |some (e,t)=>match zeroAt P e with
   |some _=>match decide (len*t.size≤16777216)with
    |true=>match DG H t (parts.toList.map fun p=>(p.1,ρ p.2)) (List.replicate len t.zero) []with
     |some (xs,fr)=>(match At H (Ag fr fz) slot with|true=>k (.own slot) { objs:=[(slot,.arr e t xs)],frz:=fr }|false=>none)
     |none=>none
    |false=>none
   |none=>none
  |none=>match cellAt P T,decide (len=1),parts.toList.map (fun p=>(p.1,ρ p.2))with
   |some e,true,[p]=>match p.2 with
    |.eptr tgt i sub=>match decide (p.1=0)&&(decide (sub=0)&&Ci H tgt)with
     |true=>(match At H fz slot with|true=>k (.own slot) { objs:=[(slot,.prs e tgt [Int.ofNat i])] }|false=>none)
     |false=>none
    |_=>none
   |_,_,_=>none
 |.load T a=>match BI P T,D0 P T with
  |some n,some ag=>match ρ a with
   |.ptr id off=>match H[id]? with
    |some (.box cs)=>match loadCells ag n (cs.drop off)with
     |some v=>k v {}
     |none=>none
    |_=>none
   |.dptr cs=>match loadCells ag n cs with
    |some v=>k v {}
    |none=>none
   |.eptr id i sub=>match H[id]? with
    |some (.arr _ t xs)=>match loadCells ag n ((BQ t (AX xs i t.zero)).drop sub)with
     |some v=>k v {}
     |none=>none
    |some (.prs _ tgt is)=>match(n==1)&&((sub==0) && !ag)with
     |true=>k (.eptr tgt (AK (AX is i 0)) 0) {}
     |false=>none
    |some (.rows (.arr _) _ _ _ ver none)=>match(n==1)&&((sub==0) && !ag)with
     |true=>k (.rowp id i ver) {}
     |false=>none
    |_=>none
   |_=>none
  |_,_=>none
 |.store T a x=>match BI P T,cells? (ρ x)with
  |some n,some vs=>match decide (vs.length=n)with
   |false=>none
   |true=>match ρ a with
    |.ptr id off=>match H[id]? with
     |some (.box cs)=>match DT cs vs off with
      |some cs=>k .junk { objs:=[(id,.box cs)] }
      |none=>none
     |_=>none
    |.eptr id i sub=>match H[id]? with
     |some (.arr T' t xs)=>match t.nul? with
      |some e=>match(sub==0)&&(n==1)with
       |true=>match EG H (.slice e) (ρ x)with
        |some (y,fr)=>match Af (Ag fr fz) id with
         |true=>k .junk { objs:=[(id,.arr T' (.slice e) (BA (Dy (List.length (α:=t.den) xs) []) i y))],frz:=fr }
         |false=>none
        |none=>none
       |false=>none
      |none=>match(sub==0)&&(n==t.size)with
       |true=>match EG H t (ρ x)with
        |some (y,fr)=>match Af (Ag fr fz) id with
         |true=>k .junk { objs:=[(id,.arr T' t (BA xs i y))],frz:=fr }
         |false=>none
        |none=>none
       |false=>match DT (BQ t (AX xs i t.zero)) vs sub with
        |none=>none
        |some cs=>match An H t cs with
         |some (y,fr,[])=>match Af (Ag fr fz) id with
          |true=>k .junk { objs:=[(id,.arr T' t (BA xs i y))],frz:=fr }
          |false=>none
         |_=>none
     |some (.rows (.arr T') e t xs ver (some i'))=>match ρ x,((sub==0)&&(n==1))&&Af fz id with
      |.rowp id' j ver',true=>match decide (id=id')&&decide (ver=ver')with
       |true=>match ieq (i:Int) (i':Int)&&ieq (j:Int) (i':Int)with
        |true=>k .junk { objs:=[(id,.rows (.arr T') e t xs ver none)] }
        |false=>none
       |false=>none
      |_,_=>none
     |_=>none
    |_=>none
  |_,_=>none
 |.nilCheck x=>match ρ x with
  |.ptr id off=>match IV H id with
   |true=>k (.ptr id off) {}
   |false=>none
  |.eptr id i s=>match Ci H id with
   |true=>k (.eptr id i s) {}
   |false=>none
  |.dptr cs=>k (.dptr cs) {}
  |.clo f cs=>k (.clo f cs) {}
  |.bnd f cs=>k (.bnd f cs) {}
  |_=>none
 |.binOp op T x y _=>match Rl P T with
  |some n=>match cells? (ρ x),cells? (ρ y),Qs (ρ x)&&Qs (ρ y)with
   |some cs,some ds,true=>match BJ n cs ds,op with
    |some b,.eql=>k (.data .bool b) {}
    |some b,.neq=>k (.data .bool (!b)) {}
    |_,_=>none
   |_,_,_=>none
  |none=>match ρ x,ρ y with
   |.data (.int j) a,.data (.int j') b=>match op with
    |.shl=>match shl? j a b with
     |some n=>k (.data (.int j) n) {}
     |none=>none
    |.shr=>match shr? j a b with
     |some n=>k (.data (.int j) n) {}
     |none=>none
    |.quo=>match decide (j=j')with
     |true=>match quo? j a b with
      |some n=>k (.data (.int j) n) {}
      |none=>none
     |false=>none
    |.rem=>match decide (j=j')with
     |true=>match rem? a b with
      |some n=>k (.data (.int j) n) {}
      |none=>none
     |false=>none
    |op=>match decide (j=j'),ARm op j a b with
     |true,some v=>k v {}
     |_,_=>none
   |.data .bool a,.data .bool b=>match op,P.underlying T with
    |.eql,some .bool=>k (.data .bool (a==b)) {}
    |.neq,some .bool=>k (.data .bool (!(a==b))) {}
    |_,_=>none
   |.str a,.str b=>match op with
    |.eql=>k (.data .bool (seq? a b)) {}
    |.neq=>k (.data .bool (!(seq? a b))) {}
    |_=>none
   |_,_=>none
 |.unOp op _ x=>match op,ρ x with
  |.not,.data .bool b=>k (.data .bool (!b)) {}
  |.neg,.data (.int j) n=>k (.data (.int j) (j.wrap (0-n))) {}
  |_,_=>none
 |.convert src dst x=>match ρ x,(P.underlying src).isSome,Kk P dst with
  |.data (.int _) n,true,some j=>k (.data (.int j) (j.wrap n)) {}
  |x,_,_=>match XF P src,ASD P dst with
   |true,true=>match EG H (.slice (.int .u8)) x with
    |some (xs,_)=>k (.str (AA5 xs)) {}
    |none=>none
   |_,_=>none
 |.makeFunc (.func f) first cs=>match first.toList with
  |[]=>k (.clo f (cs.toList.map ρ)) {}
  |x::xs=>match cs.toList with
   |[]=>k (.bnd f ((x::xs).map ρ)) {}
   |_::_=>none
 |.makeMap T none=>match P.underlying T with
  |some (.map a b)=>match E.rows,Kk P a,sliceAt P b with
   |true,some j,some (e,t)=>(match At H fz slot with|true=>k (.mp slot) { objs:=[(slot,.rows (.map j []) e t [] 0 none)] }|false=>none)
   |_,_,_=>match VO P a,AE7 P b with
   |some a,some b=>(match At H fz slot with|true=>k (.mp slot) { objs:=[(slot,.map a b [])] }|false=>none)
   |_,_=>none
  |_=>none
 |.makeSlice T l c=>match sliceAt P T with
  |some (e,t)=>match zeroAt P e,ρ l,ρ c with
   |some _,.data (.int _) l,.data (.int _) c=>match E5 l&&E5 c&&ile l c&&decide (((P.info? e).map (·.bytes)).getD 65537≤65536)with
    |true=>(match At H fz slot with|true=>k (.own slot) { objs:=[(slot,Oi P E e t (AK l))] }|false=>none)
    |false=>none
   |_,_,_=>none
  |none=>none
 |.slice T x lo hi mx=>match P.underlying T with
  |some (.slice e)=>match mx with
   |none=>match EA ρ lo,EA ρ hi with
    |some lo,some hi=>Fp H (BI P e) (ρ x) lo hi R fun v=>k v {}
    |_,_=>none
   |some m=>match hi with
    |some (.tmp h)=>match EA ρ lo,AEJ (ρ (.tmp h)),AEJ (ρ m)with
     |some lo,some n,some n'=>match ρ x with
      |.data (.slice t) xs=>match decide (BI P e=some t.size)with
       |true=>match ieq n n' with
        |true=>match CO xs (lo.getD 0) n with
         |none=>none
         |some ys=>k (.clip t ys) {}
        |false=>none
       |false=>none
      |_=>none
     |_,_,_=>none
    |hi=>match EA ρ lo,EA ρ hi,AEJ (ρ m),sliceAt P T with
     |some none,some (some 0),some 0,some (_,t)=>match FM H (ρ x),BI P e with
      |true,some _=>(match At H fz slot with|true=>k (.own slot) { objs:=[(slot,.arr e t [])] }|false=>none)
      |_,_=>none
     |_,_,_,_=>none
  |some (.array n e)=>match mx,EA ρ lo,EA ρ hi,ρ x with
   |none,some lo,some hi,.aptr id n'=>match H[id]? with
    |some (.arr _ t xs)=>match decide (n'=n)&&decide (BI P e=some t.size)with
     |true=>match CO xs (lo.getD 0) (hi.getD (AH xs))with
      |none=>none
      |some ys=>k (.win id (AK (lo.getD 0)) (AK (AH ys))) {}
     |false=>none
    |_=>none
   |_,_,_,_=>none
  |_=>none
 |.fieldAddr T x f=>match fieldAt P T f with
  |none=>none
  |some (off,size,_)=>match decide (size=0)with
   |true=>none
   |false=>match ρ x with
    |.ptr id o=>match IV H id with
     |true=>k (.ptr id (o+off)) {}
     |false=>none
    |.eptr id i s=>match Ci H id with
     |true=>k (.eptr id i (s+off)) {}
     |false=>none
    |.dptr cs=>k (.dptr (cs.drop off)) {}
    |_=>none
 |.field T x f=>match fieldAt P T f with
  |none=>none
  |some (off,size,ag)=>match cells? (ρ x),Qs (ρ x)with
   |some vs,true=>match loadCells ag size (vs.drop off)with
    |some v=>k v {}
    |none=>none
   |_,_=>none
 |.indexAddr T x i=>match P.underlying T,ρ i with
  |some (.slice e),.data (.int _) i=>match ρ x with
   |.data (.slice t) xs=>match decide (BI P e=some t.size)with
    |true=>match idx xs i with
     |some d=>k (.dptr (BQ t d)) {}
     |none=>none
    |false=>none
   |.own id=>match H[id]? with
    |some (.arr _ t xs)=>match decide (BI P e=some t.size)with
     |true=>match idx xs i with
      |some _=>k (.eptr id (AK i) 0) {}
      |none=>none
     |false=>none
    |some (.prs _ _ is)=>match decide (BI P e=some 1)with
     |true=>match idx is i with
      |some _=>k (.eptr id (AK i) 0) {}
      |none=>none
     |false=>none
    |some (.rows (.arr _) _ _ xs _ _)=>match decide (BI P e=some 1)with
     |true=>match idx xs i with
      |some _=>k (.eptr id (AK i) 0) {}
      |none=>none
     |false=>none
    |_=>none
   |.win id off n=>match H[id]? with
    |some (.arr _ t xs)=>match decide (BI P e=some t.size)with
     |true=>match idx (DI off n xs) i with
      |some _=>k (.eptr id (off+AK i) 0) {}
      |none=>none
     |false=>none
    |_=>none
   |_=>none
  |some (.array n e),.data (.int _) i=>match ABf H n (ρ x)with
   |some (id,s,len)=>match decide (BI P e=some s)with
    |true=>match ile 0 i&&(ilt i (n:Int)&&ilt i len)with
     |true=>k (.eptr id (AK i) 0) {}
     |false=>none
    |false=>none
   |none=>match gAt (ρ x)with
   |some (kk,ns)=>match decide (BI P e=some 1)with
    |true=>match ile 0 i&&(ilt i (n:Int)&&ilt i (AH ns))with
     |true=>k (.dptr [.data (.int kk) (AX ns (AK i) 0)]) {}
     |false=>none
    |false=>none
   |none=>match BI P e,decide (0≤i∧i<(n:Int))with
   |some s,true=>match ρ x with
    |.ptr id o=>match IV H id with
     |true=>k (.ptr id (o+i.toNat*s)) {}
     |false=>none
    |.eptr id j o=>match Ci H id with
     |true=>k (.eptr id j (o+i.toNat*s)) {}
     |false=>none
    |.dptr cs=>k (.dptr (cs.drop (i.toNat*s))) {}
    |_=>none
   |_,_=>none
  |_,_=>none
 |.index T x i=>match ABC x with
  |some s=>match P.underlying T,ρ i with
   |some .string,.data (.int _) i=>match idx (bytesOf s) i with
    |some b=>k (.data (.int .u8) b) {}
    |none=>none
   |_,_=>none
  |none=>match E.arrs with
   |true=>match elemAt P T,P.underlying T,ρ i with
    |some (1,false),some (.array n e),.data (.int _) i=>match cells? (ρ x),Qs (ρ x),Kk P e with
     |some vs,true,some kk=>match Ov kk vs with
      |some ns=>match decide (ns.length=n)with
       |true=>match idx ns i with
        |none=>none
        |some d=>k (.data (.int kk) d) {}
       |false=>none
      |none=>none
     |_,_,_=>none
    |_,_,_=>none
   |false=>match elemAt P T,P.underlying T,ρ i with
   |some (size,ag),some (.array n _),.data (.int _) i=>match decide (0≤i∧i<(n:Int))with
    |true=>match cells? (ρ x),Qs (ρ x)with
     |some vs,true=>match loadCells ag size (vs.drop (i.toNat*size))with
      |some v=>k v {}
      |none=>none
     |_,_=>none
    |false=>none
   |_,_,_=>none
 |.lookup T m x ok=>match P.underlying T,ρ m with
  |some (.map kt vt),.mp id=>match H[id]? with
   |some (.map a b es)=>match decide (VO P kt=some a),zeroAt P vt with
    |true,some (b',_)=>match decide (b'=b),EG H a (ρ x)with
     |true,some (key,_)=>match ok with
      |true=>k (.tup [.data b ((AM (α:=a.den) es key).getD b.zero),.data .bool (AM (α:=a.den) es key).isSome]) {}
      |false=>k (.data b ((AM (α:=a.den) es key).getD b.zero)) {}
     |_,_=>none
    |_,_=>none
   |some (.rows (.map j ks) e _ _ ver none)=>match decide (Kk P kt=some j),sliceAt P vt,(zeroAt P vt).isSome && !ok with
    |true,some (e',_),true=>match decide (e'=e),EG H (.int j) (ρ x)with
     |true,some (key,_)=>k (.rowp id (Cw ks key) ver) {}
     |_,_=>none
    |_,_,_=>none
   |_=>none
  |some (.map kt vt),.data (.mapi j b) es=>match decide (Kk P kt=some j),zeroAt P vt with
   |true,some (b',_)=>match decide (b'=b) && !b.isAgg,EG H (.int j) (ρ x)with
    |true,some (key,_)=>match ok with
     |true=>k (.tup [.data b ((AM (α:=Int) es key).getD b.zero),.data .bool (AM (α:=Int) es key).isSome]) {}
     |false=>k (.data b ((AM (α:=Int) es key).getD b.zero)) {}
    |_,_=>none
   |_,_=>none
  |_,_=>none
 |.mapUpdate T m x v=>match P.underlying T,ρ m with
  |some (.map kt _),.mp id=>match H[id]? with
   |some (.map a b es)=>match decide (VO P kt=some a),EG H a (ρ x),EG H b (ρ v)with
    |true,some (key,_),some (val,fr)=>k .junk { objs:=[(id,.map a b (Ac (α:=a.den) es key val))],frz:=fr }
    |_,_,_=>none
   |some (.rows (.map j ks) e t xs ver (some i'))=>match decide (Kk P kt=some j)&&Af fz id,EG H (.int j) (ρ x),ρ v with
    |true,some (key,_),.rowp id' i ver'=>match decide (id=id')&&decide (ver=ver')with
     |true=>match ieq (i:Int) (i':Int)&&ieq (Cw ks key:Int) (i':Int)with
      |true=>k .junk { objs:=[(id,.rows (.map j (K7 ks i' key)) e t xs ver none)] }
      |false=>none
     |false=>none
    |_,_,_=>none
   |_=>none
  |_,_=>none
 |.insert T m x v=>match P.underlying T,ρ m with
  |some (.map kt _),.mp id=>match H[id]? with
   |some (.map a b es)=>match decide (VO P kt=some a),EG H a (ρ x),EG H b (ρ v)with
    |true,some (key,_),some (val,fr)=>k .junk { objs:=[(id,.map a b (Ac (α:=a.den) es key val))],frz:=fr }
    |_,_,_=>none
   |_=>none
  |_,_=>none
 |.mapEntry T m x=>match P.underlying T,ρ m with
  |some (.map kt vt),.mp id=>match H[id]? with
   |some (.map a b es)=>match decide (VO P kt=some a),zeroAt P vt,EG H a (ρ x)with
    |true,some (b',_),some (key,_)=>match decide (b'=b)with
     |true=>k (.tup [.data b ((AM (α:=a.den) es key).getD b.zero),.data (.int .i64) (P8 (α:=a.den) es key)]) { objs:=[(id,.map a b (Ac (α:=a.den) es key ((AM (α:=a.den) es key).getD b.zero)))] }
     |false=>none
    |_,_,_=>none
   |_=>none
  |_,_=>none
 |.entryStore _ m s v=>match ρ m,ρ s with
  |.mp id,.data (.int .i64) i=>match H[id]? with
   |some (.map a b es)=>match EG H b (ρ v)with
    |some (val,fr)=>match(ile (0:Int) i&&ilt i (AH es))with
     |true=>k .junk { objs:=[(id,.map a b (ALQ es i val))],frz:=fr }
     |false=>none
    |none=>none
   |_=>none
  |_,_=>none
 |.extract x i=>match ρ x with
  |.tup vs=>match vs[i]? with
   |some v=>k v {}
   |none=>none
  |_=>none
 |.call { callee:=.builtin .len,args,argTypes }=>match args.toList,argTypes.toList with
  |[x],[T]=>match P.underlying T with
   |some (.slice _)=>match ρ x with
    |.data (.slice _) xs=>k (.data (.int .i64) (AH xs)) {}
    |.nils _=>k (.data (.int .i64) (0:Int)) {}
    |.own id=>match H[id]? with
     |some (.arr _ _ xs)=>k (.data (.int .i64) (AH xs)) {}
     |some (.prs _ _ is)=>k (.data (.int .i64) (AH is)) {}
     |_=>none
    |.win id _ n=>match Ci H id with
     |true=>k (.data (.int .i64) (n:Int)) {}
     |false=>none
    |_=>none
   |some (.map _ _)=>match ρ x with
    |.mp id=>match H[id]? with
     |some (.map _ _ es)=>k (.data (.int .i64) (AH es)) {}
     |_=>none
    |_=>none
   |_=>none
  |_,_=>none
 |.call { callee:=.builtin .append,args,argTypes }=>match args.toList,argTypes.toList with
  |[s,x],[T,T']=>match sliceAt P T,decide (T=T')with
   |some (e,t),true=>match EG H (.slice t) (ρ x),zeroAt P e,(P.info? e).map (fun i=>decide (i.bytes≤1024))with
    |some (ys,_),some _,some true=>match ρ s with
     |.nils _=>match fits (AH ys)with
      |true=>(match At H fz slot with|true=>k (.own slot) { objs:=[(slot,.arr e t ys)] }|false=>none)
      |false=>none
     |.clip _ xs=>match(Lb xs:Option (List t.den)),ys.isEmpty with
      |some xs,false=>match fits (AH xs+AH ys)with
       |true=>(match At H fz slot with|true=>k (.own slot) { objs:=[(slot,.arr e t (A9 xs ys))] }|false=>none)
       |false=>none
      |_,_=>none
     |.own id=>match H[id]? with
      |some (.arr e' _ xs)=>match Af fz id&&decide (e=e')with
       |true=>match(Lb xs:Option (List t.den))with
        |some xs=>match fits (AH xs+AH ys)with
         |true=>match E.keep with
          |true=>k (.data (.slice t) (A9 xs ys)) { frz:=[id] }
          |false=>(match At H fz slot with|true=>k (.own slot) { objs:=[(id,.dead),(slot,.arr e t (A9 xs ys))] }|false=>none)
         |false=>none
        |none=>none
       |false=>none
      |_=>none
     |.rowp id i ver=>match H[id]? with
      |some (.rows K e' t' xs ver' none)=>match Af fz id&&(decide (e=e')&&decide (ver=ver'))with
       |true=>match(Lb (t:=.slice t') xs:Option (List (Ty.slice t).den))with
        |some xs=>match fits (AH (AX xs i [])+AH ys)with
         |true=>k (.rowp id i (ver+1)) { objs:=[(id,.rows K e t (K.put xs i (A9 (AX xs i []) ys)) (ver+1) (some i))] }
         |false=>none
        |none=>none
       |false=>none
      |_=>none
     |.win id 0 n=>match H[id]? with
      |some (.arr e' _ xs)=>match Af fz id&&decide (e=e')with
       |true=>match(Lb xs:Option (List t.den))with
        |some xs=>match fits ((n:Int)+AH ys)with
         |true=>(match At H fz slot with|true=>k (.own slot) { objs:=[(id,.dead),(slot,.arr e t (A9 (Bo n xs) ys))] }|false=>none)
         |false=>none
        |none=>none
       |false=>none
      |_=>none
     |_=>none
    |_,_,_=>none
   |some (e,t),false=>match ρ s,ρ x,zeroAt P e,Kk P T',(P.info? e).map (fun i=>decide (i.bytes≤1024))with
    |.nils _,.data (.int _) n,some _,some _,some true=>match E5 n with
     |true=>(match At H fz slot with|true=>k (.own slot) { objs:=[(slot,.arr e t (Dy (AK n) t.zero))] }|false=>none)
     |false=>none
    |_,_,_,_,_=>none
   |none,true=>match cellAt P T,ρ x with
    |some e,.own ix=>match H[ix]? with
     |some (.prs e1 tgt ys)=>match decide (e1=e)with
      |true=>match ρ s with
       |.nils _=>match fits (AH ys)with
        |true=>(match At H fz slot with|true=>k (.own slot) { objs:=[(slot,.prs e tgt ys)] }|false=>none)
        |false=>none
       |.own id=>match H[id]? with
        |some (.prs e2 tgt2 xs)=>match decide (e2=e)&&decide (tgt2=tgt)with
         |true=>match fits (AH xs+AH ys)with
          |true=>(match At H fz slot with|true=>k (.own slot) { objs:=[(id,.dead),(slot,.prs e tgt (A9 xs ys))] }|false=>none)
          |false=>none
         |false=>none
        |_=>none
       |_=>none
      |false=>none
     |_=>none
    |_,_=>none
   |_,_=>none
  |_,_=>none
 |.call { callee:=.builtin .cap,args,argTypes }=>match args.toList,argTypes.toList with
  |[x],[T]=>match P.underlying T,ρ x with
   |some (.slice _),.nils _=>k (.data (.int .i64) (0:Int)) {}
   |_,_=>none
  |_,_=>none
 |.call { callee:=.builtin .min,args,.. }=>match args.toList with
  |[x,y]=>match ρ x,ρ y with
   |.data (.int j) a,.data (.int _) b=>k (.data (.int j) (Ce a b)) {}
   |_,_=>none
  |_=>none
 |.call { callee:=.builtin .max,args,.. }=>match args.toList with
  |[x,y]=>match ρ x,ρ y with
   |.data (.int j) a,.data (.int _) b=>k (.data (.int j) (imax a b)) {}
   |_,_=>none
  |_=>none
 |.call { callee:=.builtin .clear,args,argTypes }=>match args.toList,argTypes.toList with
  |[x],[T]=>match sliceAt P T with
   |some (e,t)=>match zeroAt P e with
    |some _=>match ρ x with
     |.nils _=>k .junk {}
     |.own id=>match H[id]? with
      |some (.arr e' t' xs)=>match Af fz id&&decide (t=t')with
       |true=>k .junk { objs:=[(id,.arr e' t' (Bm 0 xs.length t'.zero xs))] }
       |false=>none
      |_=>none
     |.win id off n=>match H[id]? with
      |some (.arr e' t' xs)=>match Af fz id&&decide (t=t')with
       |true=>k .junk { objs:=[(id,.arr e' t' (Bm off n t'.zero xs))] }
       |false=>none
      |_=>none
     |_=>none
    |none=>none
   |none=>none
  |_,_=>none
 |.call { callee:=.value f,args,.. }=>match ρ f with
  |.clo g caps=>E.spec g R (args.toList.map ρ++caps) H fz slot k
  |.bnd g fs=>E.spec g R (fs++args.toList.map ρ) H fz slot k
  |_=>none
 |_=>none
def St.put(s:St)(d:Option Tmp)(v:AV):St:=
 match d with
 |some d=>{ s with tmps:=s.tmps.set d v }
 |none=>s
def CP(e:Eff)(H:List Ob):List Ob:=A7 e.objs (match e.heap with
 |none=>H
 |some p=>p.1)
def Fg(e:Eff)(fz:List Bool):List Bool:=Ag e.frz (match e.heap with
 |none=>fz
 |some p=>p.2)
def St.app(s:St)(e:Eff):St:={ s with heap:=CP e s.heap,frz:=Fg e s.frz }
def BT:AV:=.tup []
def guarded(R:Type)(all:List Oper)(g:Option (Nat×Bool))(st:St)(yes no:St→Option R):Option R:=
 match g with
 |none=>yes st
 |some (j,want)=>match(all[j]?).bind (·.dst)with
  |none=>none
  |some d=>match st.tmps[d]? with
   |some (.data .bool b)=>match b with
    |true=>match want with
     |true=>yes { st with tmps:=st.tmps.set d (.data .bool true) }
     |false=>no { st with tmps:=st.tmps.set d (.data .bool true) }
    |false=>match want with
     |true=>no { st with tmps:=st.tmps.set d (.data .bool false) }
     |false=>yes { st with tmps:=st.tmps.set d (.data .bool false) }
   |some (.tup [])=>no st
   |_=>none
def I8(P:Program)(E:Env)(R:Type)(all:List Oper):List Oper→Nat→St→(St→Option R)→Option R
 |[],_,st,k=>k st
 |o::rest,slot,st,k=>
  guarded R all o.guard st
   (fun st=>evalOp P E R o.op o.type (BU st.tmps) st.heap st.frz slot fun v e=>I8 P E R all rest (slot+slotsOf o.op) ((st.app e).put o.dst v) k)
   (fun st=>I8 P E R all rest (slot+slotsOf o.op) (st.put o.dst BT) k)
def Eg(ops:List Oper):Nat:=(ops.map fun o=>slotsOf o.op).foldr (· + ·) 0
def St.pad(s:St)(n:Nat):St:={ s with heap:=s.heap++List.replicate n .free,frz:=s.frz++List.replicate n false }
def G6(P:Program)(E:Env)(R:Type)(ops:List Oper)(st:St)(k:St→Option R):Option R:=
 I8 P E R ops ops st.heap.length (st.pad (Eg ops)) k
mutual
def Am:AV→List Nat
 |.agg cs=>BG cs
 |.own id=>[id]
 |.win id _ _=>[id]
 |.ptr id _=>[id]
 |.eptr id _ _=>[id]
 |.dptr cs=>BG cs
 |.clo _ cs=>BG cs
 |.bnd _ cs=>BG cs
 |.mp id=>[id]
 |.rowp id _ _=>[id]
 |.aptr id _=>[id]
 |.tup vs=>BG vs
 |_=>[]
def BG:List AV→List Nat
 |[]=>[]
 |v::vs=>Am v++BG vs
end
def GS(ρ:Operand→AV)(o:Op):List Nat:=o.operands.toList.flatMap fun x=>Am (ρ x)
def Dw(ρ:Operand→AV)(o:Op):List Nat:=
 match o with
 |.move _=>[]
 |.assign _=>[]
 |.pick _ _ _=>[]
 |.extract _ _=>[]
 |.build _ _=>[]
 |.makeFunc _ _ _=>[]
 |.store T a x=>match ρ a with
  |.ptr id _=>[id]
  |_=>GS ρ (.store T a x)
 |o=>GS ρ o
def writer:Op→Bool
 |.store ..=>true
 |.mapUpdate ..=>true
 |.insert ..=>true
 |.mapEntry ..=>true
 |.entryStore ..=>true
 |.call { callee:=.builtin .append,.. }=>true
 |.call { callee:=.builtin .clear,.. }=>true
 |_=>false
def Fw(E:Env)(ρ:Operand→AV):Op→Bool
 |.call { callee:=.value f,.. }=>match ρ f with
  |.clo g _=>E.loc g
  |.bnd g _=>E.loc g
  |_=>false
 |_=>true
def rd(φ:List Nat)(i:Nat):Bool:=φ.contains (2*i)||φ.contains (2*i+1)
def wt(φ:List Nat)(i:Nat):Bool:=φ.contains (2*i+1)
def Ds(ρ:Operand→AV)(o:Op):List Nat:=
 match o with
 |.store _ a _=>Am (ρ a)
 |.mapUpdate _ m _ _=>Am (ρ m)
 |.insert _ m _ _=>Am (ρ m)
 |.mapEntry _ m _=>Am (ρ m)
 |.entryStore _ m _ _=>Am (ρ m)
 |.call { callee:=.builtin .append,args,.. }=>match args.toList with
  |s::_=>Am (ρ s)
  |[]=>[]
 |.call { callee:=.builtin .clear,args,.. }=>match args.toList with
  |s::_=>Am (ρ s)
  |[]=>[]
 |_=>[]
def within(l φ:List Nat):Bool:=l.all (rd φ)
def PW(l φ:List Nat):Bool:=l.all (wt φ)
def AEV(wr:Bool)(φ:List Nat)(slot n:Nat)(e:Eff):Bool:=
 e.heap.isNone&&(e.objs.all fun p=>(decide (slot≤p.1)&&decide (p.1<slot+n))||(wr&&wt φ p.1))&&within e.frz φ
def Bp:Op→Bool
 |.move _=>true
 |.assign _=>true
 |.pick _ _ _=>true
 |.binOp _ _ _ _ _=>true
 |.unOp _ _ _=>true
 |.extract _ _=>true
 |_=>false
def ON(φ:List Nat):Bool:=φ.contains 1000003
def FY:Op→Bool
 |.load _ _=>true
 |.convert _ _ _=>true
 |.fieldAddr _ _ _=>true
 |.field _ _ _=>true
 |.indexAddr _ _ _=>true
 |.index _ _ _=>true
 |.nilCheck _=>true
 |.lookup _ _ _ _=>true
 |.slice _ _ _ _ none=>true
 |.build _ _=>true
 |.makeFunc (.func _) _ _=>true
 |.call { callee:=.builtin .len,.. }=>true
 |o=>Bp o
def WM(φ:List Nat):Bool:=φ.contains 1000005
def Si(E:Env)(ρ:Operand→AV):Op→Bool
 |.call { callee:=.value f,.. }=>match ρ f with
  |.clo g _=>E.loc2 g
  |.bnd g _=>E.loc2 g
  |_=>false
 |_=>false
def NU(φ:List Nat)(H:List Ob):Bool:=φ.all fun c=>match H[c/2]? with
 |some (.box cs)=>(BG cs).all (wt φ)
 |_=>true
def Lh(E:Env)(ρ:Operand→AV)(o:Op)(φ:List Nat)(H:List Ob):Bool:=
 (GS ρ o).all (wt φ)&&NU φ H&&(φ.all fun c=>c % 2==1)&&Si E ρ o
def UA(P:Program)(E:Env)(R:Type)(all:List Oper)(o:Oper)(φ:List Nat)(slot:Nat)(st:St)(k:St→Option R):Option R:=
 guarded R all o.guard st
  (fun st=>match ON φ||((WM φ&&Lh E (BU st.tmps) o.op φ st.heap)||(!(WM φ)&&(within (Dw (BU st.tmps) o.op) φ&&PW (Ds (BU st.tmps) o.op) φ&&Fw E (BU st.tmps) o.op)))with
   |true=>evalOp P E R o.op o.type (BU st.tmps) st.heap st.frz slot fun v e=>match ON φ||AEV (writer o.op||WM φ) φ slot (slotsOf o.op) e with
    |true=>k ((st.app e).put o.dst v)
    |false=>none
   |false=>none)
  (fun st=>k (st.put o.dst BT))
def IU(P:Program)(E:Env)(R:Type)(all:List Oper):List Oper→List (List Nat)→Nat→St→(St→Option R)→Option R
 |[],_,_,st,k=>k st
 |o::rest,fp,slot,st,k=>UA P E R all o (fp.headD []) slot st fun st=>IU P E R all rest fp.tail (slot+slotsOf o.op) st k
def apart?(ops:List Oper)(x y:Oper):Bool:=Oper.apart ops.toArray x y
def W8:Op→Op→Bool
 |.lookup _ _ _ ok,.mapEntry _ _ _ => !ok
 |_,_=>false
def indep(all:List Oper)(x y:Oper)(φx φy:List Nat)(sx sy:Nat):Bool:=
 apart? all x y&&((ON φx&&Bp y.op)||(ON φy&&Bp x.op)||(!(ON φx) && !(ON φy)&&(φy.all fun c => !(decide (sx≤c/2)&&decide (c/2<sx+slotsOf x.op)))&&(φx.all fun c => !(decide (sy≤c/2)&&decide (c/2<sy+slotsOf y.op))) &&
  (φx.all fun c=>decide (c % 2=0) || !(rd φy (c/2)))&&(φy.all fun c=>decide (c % 2=0) || !(rd φx (c/2))))||(!(WM φx)&&(!(WM φy)&&W8 x.op y.op)))
def AHd(y:Oper)(i:Nat):Bool:=y.after.toList.any fun e=>Region.binds .any e&&decide (e.on=i)
def reach(all:List Oper):Nat→Oper→Nat→Bool
 |0,_,_=>false
 |n+1,y,i=>AHd y i||y.after.toList.any fun e=>Region.binds .any e&&match all[e.on]? with
  |some z=>reach all n z i
  |none=>false
def W7(all:List Oper)(y:Oper)(φy:List Nat)(sy:Nat):List (Nat×Oper×List Nat×Nat)→Bool
 |[]=>true
 |(i,x,φx,sx)::r=>(AHd y i||(indep all x y φx φy sx sy||reach all 8 y i))&&W7 all y φy sy r
def AGy(all:List Oper):List Oper→List (List Nat)→Nat→Nat→List (Nat×Oper×List Nat×Nat)→Bool
 |[],_,_,_,_=>true
 |o::rest,fp,i,slot,acc=>W7 all o (fp.headD []) slot acc&&(o.after.toList.all fun e => !Region.binds .any e||decide (e.on<i)) &&
  AGy all rest fp.tail (i+1) (slot+slotsOf o.op) ((i,o,fp.headD [],slot)::acc)
def D9(P:Program)(E:Env)(R:Type)(fp:List (List Nat))(ops:List Oper)(st:St)(k:St→Option R):Option R:=
 match P.follows .mixedOrders&&AGy ops ops fp 0 st.heap.length []with
 |true=>IU P E R ops ops fp st.heap.length (st.pad (Eg ops)) k
 |false=>none
def loops:Code→Nat
 |.seq a b=>loops a+loops b
 |.cond _ a b=>loops a+loops b
 |.block _ c=>loops c
 |.scope c=>loops c
 |.loop c=>loops c+1
 |_=>0
def OU(tmps:List AV)(c:Operand)(b:Bool):List AV:=
 match c with
 |.tmp t=>tmps.set t (.data .bool b)
 |_=>tmps
def BD(P:Program)(E:Env)(h:Hints)(R:Type):Code→Nat→St→(Exit→St→Option R)→Option R
 |.skip,_,st,k=>k .normal st
 |.region id ops draw,_,st,k=>match draw with
  |false=>G6 P E R ops.toList st (k .normal)
  |true=>D9 P E R (h.fp id) ops.toList st (k .normal)
 |.seq a b,n,st,k=>BD P E h R a n st fun e st=>match e with
  |.normal=>BD P E h R b (n+loops a) st k
  |e=>k e st
 |.cond c a b,n,st,k=>match BU st.tmps c with
  |.data .bool x=>match x with
   |true=>BD P E h R a n { st with tmps:=OU st.tmps c true } k
   |false=>BD P E h R b (n+loops a) { st with tmps:=OU st.tmps c false } k
  |_=>none
 |.block id c,n,st,k=>BD P E h R c n st fun e st=>match e with
  |.exit id'=>match decide (id'=id)with
   |true=>k .normal st
   |false=>k (.exit id') st
  |e=>k e st
 |.loop _,n,st,k=>h.loop n R st k
 |.exit id,_,st,k=>k (.exit id) st
 |.ret,_,st,k=>k .ret st
 |_,_,_,_=>none
def P5(P:Program)(st:St):ResultVar→Option AV
 |.tmp t=>some (st.tmps.getD t .junk)
 |.cell t T=>match BU st.tmps (.tmp t),BI P T,D0 P T with
  |.ptr id off,some n,some ag=>match st.heap[id]? with
   |some (.box cs)=>loadCells ag n (cs.drop off)
   |_=>none
  |_,_,_=>none
def DF(P:Program)(st:St):List ResultVar→Option (List AV)
 |[]=>some []
 |r::rs=>match P5 P st r with
  |none=>none
  |some v=>match DF P st rs with
   |none=>none
   |some vs=>some (v::vs)
end
end Go.Pev
end
section
namespace Go.Pev
noncomputable section
inductive Loc where
 |tmp (t:Nat)
 |cell (j c:Nat)
 |cap (t i:Nat)
 |obj (j:Nat)
inductive Con where
 |dat (t:Ty)
 |own (T:TypeId) (e:Ty)
 |box (n:Nat)
 |map (k v:Ty)
 |own' (j:Nat)
 |ptr' (j off:Nat)
 |map' (j:Nat)
 |win' (j:Nat)
 |sub' (j:Nat)
 |clo (f:FuncId) (ps:List (Nat×Nat))
 |bnd (f:FuncId) (j:Nat)
 |prs (T:TypeId) (j:Nat)
 |nil (e:Ty)
 |rows (T e:TypeId) (t:Ty)
 |mrows (j:IntKind) (e:TypeId) (t:Ty)
 |aptr (T:TypeId) (e:Ty) (n:Nat)
 |aptr' (j n:Nat)
 |bndp (f:FuncId) (j:Nat)
 |nilp
abbrev Con.di:Con:=.dat (.int .i64)
abbrev AE:=List (Loc×Con)
def leaves:AE→List Ty
 |[]=>[]
 |(_,.dat t)::r=>t::leaves r
 |(_,.own _ e)::r=>.slice e::leaves r
 |(_,.map k v)::r=>.slice (.prod k v)::leaves r
 |(_,.win' _)::r=>.int .i64::leaves r
 |(_,.prs _ _)::r=>.slice (.int .i64)::leaves r
 |(_,.sub' _)::r=>.int .i64 :: .int .i64::leaves r
 |(_,.rows _ _ t)::r=>.slice (.slice t)::leaves r
 |(_,.mrows j _ t)::r=>.mapi j (.slice t)::leaves r
 |(_,.aptr _ e _)::r=>.slice e::leaves r
 |(_,_)::r=>leaves r
inductive Bnd where
 |none
 |whole (id:Nat)
 |cut (id:Nat)
 deriving DecidableEq
def Bnd.id? : Bnd→Option Nat
 |.none=>Option.none
 |.whole id=>some id
 |.cut id=>some id
def AdE(H:List Ob)(j:Nat):Option AV:=
 match H[j]? with
 |some (.arr _ _ _)=>some (.own j)
 |some (.box _)=>some (.ptr j 0)
 |some (.map _ _ _)=>some (.mp j)
 |some (.prs _ _ _)=>some (.own j)
 |some (.rows (.arr _) _ _ _ _ _)=>some (.own j)
 |some (.rows (.map _ _) _ _ _ _ _)=>some (.mp j)
 |_=>none
def look(tm:List AV)(H:List Ob)(bs:List Bnd):Loc→Option AV
 |.tmp t=>tm[t]?
 |.cell j c=>match bs[j]? with
  |some (.whole id)=>match H[id]? with
   |some (.box cs)=>cs[c]?
   |_=>none
  |_=>none
 |.cap t i=>match tm[t]? with
  |some (.clo _ cs)=>cs[i]?
  |some (.bnd _ cs)=>cs[i]?
  |_=>none
 |.obj j=>AdE H j
def AWk(bs:List Bnd):List AV→List (Nat×Nat)→Bool
 |[],[]=>true
 |.ptr id o::vs,(j,o')::ps=>(match bs[j]? with
  |some (.whole id')=>decide (id=id')&&decide (o=o')
  |_=>false)&&AWk bs vs ps
 |_,_=>false
def fresh?(bs:List Bnd)(id:Nat):Bool:=bs.all fun b=>match b with
 |.none=>true
 |.whole i => !(decide (i=id))
 |.cut i => !(decide (i=id))
abbrev Aen(α:Type):=Option (α×List Bnd×List Nat)
def dec(tm:List AV)(H:List Ob):(its:AE)→List Bool→List Bnd→Aen (B7 (leaves its))
 |[],_,bs=>some ((),bs,[])
 |(l,.dat t)::r,fz,bs=>match look tm H bs l with
  |some v=>match Vq H t v with
   |some (x,f)=>match f.all (fresh? bs)with
    |true=>match dec tm H r (Ag f fz) bs with
     |some (xs,bs',g)=>some ((x,xs),bs',f++g)
     |none=>none
    |false=>none
   |none=>none
  |none=>none
 |(l,.own T e)::r,fz,bs=>match look tm H bs l with
  |some (.nils _)=>match decide (0<e.size)with
   |true=>match dec tm H r fz (bs++[.none])with
    |some (xs,bs',g)=>some (([],xs),bs',g)
    |none=>none
   |false=>none
  |some (.own id)=>match H[id]?,Af fz id&&fresh? bs id with
   |some (.arr T' e' ys),true=>match decide (T=T'),(Lb ys:Option (List e.den))with
    |true,some ys=>match dec tm H r fz (bs++[.whole id])with
     |some (xs,bs',g)=>some ((ys,xs),bs',g)
     |none=>none
    |_,_=>none
   |_,_=>none
  |some (.win id 0 n)=>match H[id]?,Af fz id&&fresh? bs id with
   |some (.arr T' e' ys),true=>match decide (T=T'),(Lb ys:Option (List e.den))with
    |true,some ys=>match dec tm H r fz (bs++[.cut id])with
     |some (xs,bs',g)=>some ((Bo n ys,xs),bs',g)
     |none=>none
    |_,_=>none
   |_,_=>none
  |_=>none
 |(l,.box n)::r,fz,bs=>match look tm H bs l with
  |some (.ptr id 0)=>match H[id]?,fresh? bs id with
   |some (.box cs),true=>match decide (cs.length=n)with
    |true=>dec tm H r fz (bs++[.whole id])
    |false=>none
   |_,_=>none
  |_=>none
 |(l,.map k v)::r,fz,bs=>match look tm H bs l with
  |some (.mp id)=>match H[id]?,fresh? bs id with
   |some (.map k' v' es),true=>match(Lb (t:=.prod k' v') es:Option (List (Ty.prod k v).den))with
    |some es=>match dec tm H r fz (bs++[.whole id])with
     |some (xs,bs',g)=>some ((es,xs),bs',g)
     |none=>none
    |_=>none
   |_,_=>none
  |_=>none
 |(l,.own' j)::r,fz,bs=>match look tm H bs l,bs[j]? with
  |some (.own id),some (.whole id')=>match decide (id=id')with
   |true=>dec tm H r fz bs
   |false=>none
  |_,_=>none
 |(l,.ptr' j off)::r,fz,bs=>match look tm H bs l,bs[j]? with
  |some (.ptr id o),some (.whole id')=>match decide (id=id')&&decide (o=off)with
   |true=>dec tm H r fz bs
   |false=>none
  |_,_=>none
 |(l,.map' j)::r,fz,bs=>match look tm H bs l,bs[j]? with
  |some (.mp id),some (.whole id')=>match decide (id=id')with
   |true=>dec tm H r fz bs
   |false=>none
  |_,_=>none
 |(l,.win' j)::r,fz,bs=>match look tm H bs l,bs[j]? with
  |some (.win id 0 n),some (.whole id')=>match decide (id=id')with
   |true=>match dec tm H r fz bs with
    |some (xs,bs',g)=>some (((n:Int),xs),bs',g)
    |none=>none
   |false=>none
  |some (.own id),some (.whole id')=>match decide (id=id'),H[id]? with
   |true,some (.arr _ _ ys)=>match dec tm H r fz bs with
    |some (xs,bs',g)=>some ((AH ys,xs),bs',g)
    |none=>none
   |_,_=>none
  |_,_=>none
 |(l,.sub' j)::r,fz,bs=>match look tm H bs l,bs[j]? with
  |some (.win id off n),some (.whole id')=>match decide (id=id')with
   |true=>match dec tm H r fz bs with
    |some (xs,bs',g)=>some (((off:Int),(n:Int),xs),bs',g)
    |none=>none
   |false=>none
  |_,_=>none
 |(l,.clo f ps)::r,fz,bs=>match look tm H bs l with
  |some (.clo f' vs)=>match decide (f=f')&&AWk bs vs ps with
   |true=>dec tm H r fz bs
   |false=>none
  |_=>none
 |(l,.bnd f j)::r,fz,bs=>match look tm H bs l,bs[j]? with
  |some (.bnd f' [.own id]),some (.whole id')=>match decide (f=f')&&decide (id=id')with
   |true=>dec tm H r fz bs
   |false=>none
  |_,_=>none
 |(l,.prs T j)::r,fz,bs=>match look tm H bs l with
  |some (.nils _)=>match dec tm H r fz (bs++[.none])with
   |some (xs,bs',g)=>some ((([]:List Int),xs),bs',g)
   |none=>none
  |some (.own id)=>match H[id]?,fresh? bs id,bs[j]? with
   |some (.prs T' tgt is),true,some (.whole tgt')=>match decide (T=T')&&decide (tgt=tgt')with
    |true=>match dec tm H r fz (bs++[.whole id])with
     |some (xs,bs',g)=>some ((is,xs),bs',g)
     |none=>none
    |false=>none
   |_,_,_=>none
  |_=>none
 |(l,.nil _)::r,fz,bs=>match look tm H bs l with
  |some (.nils _)=>dec tm H r fz bs
  |_=>none
 |(l,.rows T e t)::r,fz,bs=>match look tm H bs l with
  |some (.own id)=>match H[id]?,Af fz id&&fresh? bs id with
   |some (.rows (.arr T') e' t' ys _ none),true=>match decide (T=T')&&decide (e=e'),(Lb (t:=.slice t') ys:Option (List (Ty.slice t).den))with
    |true,some ys=>match dec tm H r fz (bs++[.whole id])with
     |some (xs,bs',g)=>some ((ys,xs),bs',g)
     |none=>none
    |_,_=>none
   |_,_=>none
  |_=>none
 |(l,.mrows j e t)::r,fz,bs=>match look tm H bs l with
  |some (.mp id)=>match H[id]?,Af fz id&&fresh? bs id with
   |some (.rows (.map j' ks) e' t' ys _ none),true=>match decide (j=j')&&decide (e=e'),(Lb (t:=.slice t') ys:Option (List (Ty.slice t).den))with
    |true,some ys=>match dec tm H r fz (bs++[.whole id])with
     |some (xs,bs',g)=>some ((List.zip (β:=List t.den) ks ys,xs),bs',g)
     |none=>none
    |_,_=>none
   |_,_=>none
  |_=>none
 |(l,.aptr T e n)::r,fz,bs=>match look tm H bs l with
  |some (.aptr id n')=>match H[id]?,Af fz id&&fresh? bs id with
   |some (.arr T' e' ys),true=>match decide (T=T')&&decide (n=n'),(Lb ys:Option (List e.den))with
    |true,some ys=>match dec tm H r fz (bs++[.whole id])with
     |some (xs,bs',g)=>some ((ys,xs),bs',g)
     |none=>none
    |_,_=>none
   |_,_=>none
  |_=>none
 |(l,.bndp f j)::r,fz,bs=>match look tm H bs l,bs[j]? with
  |some (.bnd f' [.ptr id 0]),some (.whole id')=>match decide (f=f')&&decide (id=id')with
   |true=>dec tm H r fz bs
   |false=>none
  |_,_=>none
 |(l,.nilp)::r,fz,bs=>match look tm H bs l with
  |some .nilp=>dec tm H r fz bs
  |_=>none
 |(l,.aptr' j n)::r,fz,bs=>match look tm H bs l,bs[j]? with
  |some (.aptr id n'),some (.whole id')=>match decide (id=id')&&decide (n=n')with
   |true=>dec tm H r fz bs
   |false=>none
  |_,_=>none
def place(st:St)(v:AV):Loc→St
 |.tmp t=>{ st with tmps:=st.tmps.set t v }
 |.cell j c=>match st.heap[j]? with
  |some (.box cs)=>{ st with heap:=st.heap.set j (.box (cs.set c v)) }
  |_=>st
 |_=>st
def Da(st:St)(o:Ob):St:={ st with heap:=st.heap++[o],frz:=st.frz++[false] }
def enc:(its:AE)→B7 (leaves its)→St→St
 |[],_,st=>st
 |(l,.dat t)::r,d,st=>enc r d.2 (place st (.data t d.1) l)
 |(l,.own T e)::r,d,st=>enc r d.2 (place (Da st (.arr T e d.1)) (.own st.heap.length) l)
 |(l,.box n)::r,d,st=>enc r d (place (Da st (.box (List.replicate n .junk))) (.ptr st.heap.length 0) l)
 |(l,.map k v)::r,d,st=>enc r d.2 (place (Da st (.map k v d.1)) (.mp st.heap.length) l)
 |(l,.own' j)::r,d,st=>enc r d (place st (.own j) l)
 |(l,.ptr' j off)::r,d,st=>enc r d (place st (.ptr j off) l)
 |(l,.map' j)::r,d,st=>enc r d (place st (.mp j) l)
 |(l,.win' j)::r,d,st=>enc r d.2 (place st (.win j 0 (AK d.1)) l)
 |(l,.sub' j)::r,d,st=>enc r d.2.2 (place st (.win j (AK d.1) (AK d.2.1)) l)
 |(l,.clo f ps)::r,d,st=>enc r d (place st (.clo f (ps.map fun p=>.ptr p.1 p.2)) l)
 |(l,.bnd f j)::r,d,st=>enc r d (place st (.bnd f [.own j]) l)
 |(l,.prs T j)::r,d,st=>enc r d.2 (place (Da st (.prs T j d.1)) (.own st.heap.length) l)
 |(l,.nil e)::r,d,st=>enc r d (place st (.nils e) l)
 |(l,.rows T e t)::r,d,st=>enc r d.2 (place (Da st (.rows (.arr T) e t d.1 0 none)) (.own st.heap.length) l)
 |(l,.mrows j e t)::r,d,st=>enc r d.2 (place (Da st (.rows (.map j (List.map (α:=Int×List t.den) Prod.fst d.1)) e t (List.map (α:=Int×List t.den) Prod.snd d.1) 0 none)) (.mp st.heap.length) l)
 |(l,.aptr T e n)::r,d,st=>enc r d.2 (place (Da st (.arr T e d.1)) (.aptr st.heap.length n) l)
 |(l,.aptr' j n)::r,d,st=>enc r d (place st (.aptr j n) l)
 |(l,.bndp f j)::r,d,st=>enc r d (place st (.bnd f [.ptr j 0]) l)
 |(l,.nilp)::r,d,st=>enc r d (place st .nilp l)
def blank(n:Nat):St:={ tmps:=List.replicate n .junk,heap:=[],frz:=[] }
def encode(n:Nat)(its:AE)(d:B7 (leaves its)):St:=enc its d (blank n)
def pins:Nat→Nat→List Bnd→Bool
 |0,_,_=>true
 |n+1,i,b::bs=>decide (b = .whole i)&&pins n (i+1) bs
 |_+1,_,[]=>false
def decode(np nt:Nat)(st:St)(its:AE):Option (B7 (leaves its)):=
 match decide (st.tmps.length=nt)with
 |true=>match dec st.tmps st.heap its st.frz []with
  |some (v,bs,_)=>match pins np 0 bs&&(st.heap.take np).all BS with
   |true=>some v
   |false=>none
  |none=>none
 |false=>none
abbrev A0:=List (Exit×AE)
@[reducible] def Np:A0→Type
 |[]=>Unit
 |o::r=>B7 (leaves o.2)⊕Np r
def YQ:Exit→Exit→Bool
 |.normal,.normal=>true
 |.ret,.ret=>true
 |.exit a,.exit b=>decide (a=b)
 |_,_=>false
def AD3(np nt:Nat)(e:Exit)(st:St):(os:A0)→Option (Np os)
 |[]=>none
 |o::r=>match YQ e o.1 with
  |true=>match decode np nt st o.2 with
   |some d=>some (.inl d)
   |none=>none
  |false=>match AD3 np nt e st r with
   |some x=>some (.inr x)
   |none=>none
def AEP(n:Nat){R:Type}(k:Exit→St→Option R):(os:A0)→Np os→Option R
 |[],_=>none
 |o::r,x=>match x with
  |.inl d=>k o.1 (encode n o.2 d)
  |.inr x=>AEP n k r x
def AW{σ ρ:Type}(step:σ→Option (σ⊕ρ)):Nat→σ→Option ρ
 |0,_=>none
 |n+1,v=>match step v with
  |none=>none
  |some (.inl v')=>AW step n v'
  |some (.inr r)=>some r
def many:Nat:=18446744073709551616
def AU[Lk]{σ ρ:Type}(step:σ→Option (σ⊕ρ))(n:Nat)(v:σ):Option ρ:=Lk.f (AW step n v)
theorem As{σ ρ:Type}(step:σ→Option (σ⊕ρ))(n:Nat)(v:σ):AU step n v=AW step n v:=AG _
def AJx(np nt:Nat)(its:AE)(os:A0)(e:Exit)(st:St):Option (B7 (leaves its)⊕Np os):=
 match e with
 |.normal=>match decode np nt st its with
  |some d=>some (.inl d)
  |none=>none
 |e=>match AD3 np nt e st os with
  |some x=>some (.inr x)
  |none=>none
def Ae(np nt:Nat)(its:AE)(os:A0)(step:B7 (leaves its)→Option (B7 (leaves its)⊕Np os)):ANG:=fun R st k=>
 match decode np nt st its with
 |none=>none
 |some v=>match AU step many v with
  |none=>none
  |some r=>AEP nt k os r
def roundOf(P:Program)(E:Env)(h:Hints)(n np nt:Nat)(body:Code)(its:AE)(os:A0)(v:B7 (leaves its)):Option (B7 (leaves its)⊕Np os):=
 BD P E h _ body n (encode nt its v) (AJx np nt its os)
inductive RS where
 |one
 |agg (n:Nat)
def Fy:List RS→List AV→Option (List AV)
 |[],[]=>some []
 |.one::r,v::vs=>match Fy r vs with
  |some l=>some (v::l)
  |none=>none
 |.agg n::r,v::vs=>match Qs v,cells? v with
  |true,some cs=>match decide (cs.length=n)with
   |true=>match Fy r vs with
    |some l=>some (cs++l)
    |none=>none
   |false=>none
  |_,_=>none
 |_,_=>none
def Fu:List RS→List AV→List AV
 |[],_=>[]
 |.one::r,vs=>vs.headD .junk::Fu r vs.tail
 |.agg n::r,vs=>.agg (vs.take n)::Fu r (vs.drop n)
def RS.cells:RS→Nat
 |.one=>1
 |.agg n=>n
def cellsOf:List RS→Nat
 |[]=>0
 |r::rs=>r.cells+cellsOf rs
def C1:AE→Nat
 |[]=>0
 |(_,.own _ _)::r=>C1 r+1
 |(_,.box _)::r=>C1 r+1
 |(_,.map _ _)::r=>C1 r+1
 |(_,.prs _ _)::r=>C1 r+1
 |(_,.rows _ _ _)::r=>C1 r+1
 |(_,.mrows _ _ _)::r=>C1 r+1
 |(_,.aptr _ _ _)::r=>C1 r+1
 |_::r=>C1 r
def Hf:AE→Bool
 |[]=>true
 |(_,.rows _ _ _)::_=>false
 |(_,.mrows _ _ _)::_=>false
 |_::r=>Hf r
def finish(np:Nat)(P:Program)(fn:Func)(outs:AE)(rs:List RS)(st:St):Option (B7 (leaves outs)):=
 match DF P st fn.results.toList with
 |some vs=>match Fy rs vs with
  |some tm=>match dec tm st.heap outs st.frz []with
   |some (y,bs,_)=>match pins np 0 bs&&(st.heap.take np).all BS with
    |true=>some y
    |false=>none
   |none=>none
  |none=>none
 |none=>none
def AQ(np:Nat)(P:Program)(E:Env)(h:Hints)(fn:Func)(its outs:AE)(rs:List RS)(x:B7 (leaves its)):Option (B7 (leaves outs)):=
 match fn.body with
 |none=>none
 |some c=>BD P E h _ c 0 (encode fn.ntmps its x) fun e st=>
  match e with
  |.normal=>finish np P fn outs rs st
  |.ret=>finish np P fn outs rs st
  |_=>none
def given:List Bnd→List Nat
 |[]=>[]
 |.whole id::bs=>id::given bs
 |_::bs=>given bs
def Ch:Nat→List Bnd→Nat→List Nat
 |0,_,_=>[]
 |n+1,.whole id::bs,slot=>id::Ch n bs slot
 |n+1,_::bs,slot=>slot::Ch n bs (slot+1)
 |n+1,[],slot=>slot::Ch n [] (slot+1)
mutual
def Dr(ids:List Nat):AV→AV
 |.agg cs=>.agg (KP ids cs)
 |.own id=>.own (ids.getD id 0)
 |.win id off n=>.win (ids.getD id 0) off n
 |.ptr id off=>.ptr (ids.getD id 0) off
 |.eptr id i s=>.eptr (ids.getD id 0) i s
 |.dptr cs=>.dptr (KP ids cs)
 |.clo f cs=>.clo f (KP ids cs)
 |.bnd f cs=>.bnd f (KP ids cs)
 |.mp id=>.mp (ids.getD id 0)
 |.tup vs=>.tup (KP ids vs)
 |.rowp _ _ _=>.junk
 |.aptr id n=>.aptr (ids.getD id 0) n
 |v=>v
def KP(ids:List Nat):List AV→List AV
 |[]=>[]
 |v::vs=>Dr ids v::KP ids vs
end
def DS(ids:List Nat):Ob→Ob
 |.box cs=>.box (KP ids cs)
 |.prs T tgt is=>.prs T (ids.getD tgt 0) is
 |o=>o
mutual
def JO:AV→Bool
 |.data t _=>t.flat
 |.agg cs=>Jz cs
 |.dptr _=>false
 |.clip _ _=>false
 |.clo _ cs=>Jz cs
 |.bnd _ cs=>Jz cs
 |.tup vs=>Jz vs
 |_=>true
def Jz:List AV→Bool
 |[]=>true
 |v::vs=>JO v&&Jz vs
end
def O5:Ob→Bool
 |.box cs=>Jz cs
 |.arr _ t _=>t.flat
 |.map k v _=>k.flat&&v.flat
 |_=>true
def E4(H:List Ob)(fz:List Bool):List Nat→List Bnd→Bool
 |[],_=>true
 |i::ids,bs=>(match bs with
  |.whole id::_=>decide (i=id)
  |_=>At H fz i)&&E4 H fz ids bs.tail
def I9:List Nat→Bool
 |[]=>true
 |i::ids => !(ids.contains i)&&I9 ids
def single:List AV→AV
 |[v]=>v
 |vs=>.tup vs
def Bnd.AXB:Bnd→Bool
 |.cut _=>false
 |_=>true
def JV(R:Type)(gv:List Nat)(bs:List Bnd)(fr:List Nat)(rs:List RS)(E:St)(ids:List Nat)(H:List Ob)(fz:List Bool)(k:AV→Eff→Option R):Option R:=
 match Jz E.tmps&&E.heap.all O5 with
 |true=>match E4 H fz ids bs&&I9 ids with
  |true=>k (single (Fu rs (KP ids E.tmps))) { objs:=gv.map (fun i=>(i,.dead))++ids.zip (E.heap.map (DS ids)) }
  |false=>none
 |false=>match E4 H (Ag fr fz) ids bs&&I9 ids with
  |true=>k (single (Fu rs (KP ids E.tmps))) { objs:=gv.map (fun i=>(i,.dead))++ids.zip (E.heap.map (DS ids)),frz:=fr }
  |false=>none
def AF(np na:Nat)(its outs:AE)(rs:List RS)(f:B7 (leaves its)→Option (B7 (leaves outs))):Spec:=fun R args H fz slot k=>
 match dec args H its fz []with
 |none=>none
 |some (x,bs,fr)=>match bs.all Bnd.AXB&&decide (bs.length=C1 its)&&decide (args.length=na)&&(Hf its&&Hf outs)with
  |false=>none
  |true=>match f x with
   |none=>none
   |some y=>JV R (given (bs.drop np)) (bs.take np) fr rs (encode (cellsOf rs) outs y) (Ch (C1 outs) (bs.take np) slot) H fz k
def G8(np:Nat)(P:Program)(fn:Func)(rs:List RS)(st:St):(os:A0)→Option (Np os)
 |[]=>none
 |o::r=>match finish np P fn o.2 rs st with
  |some d=>some (.inl d)
  |none=>match G8 np P fn rs st r with
   |some x=>some (.inr x)
   |none=>none
def APJ(np:Nat)(P:Program)(E:Env)(h:Hints)(fn:Func)(its:AE)(os:A0)(rs:List RS)(x:B7 (leaves its)):Option (Np os):=
 match fn.body with
 |none=>none
 |some c=>BD P E h _ c 0 (encode fn.ntmps its x) fun e st=>
  match e with
  |.normal=>G8 np P fn rs st os
  |.ret=>G8 np P fn rs st os
  |_=>none
def F6(R:Type)(np:Nat)(bs:List Bnd)(fr:List Nat)(rs:List RS)(slot:Nat)(H:List Ob)(fz:List Bool)(k:AV→Eff→Option R):(os:A0)→Np os→Option R
 |[],_=>none
 |o::r,x=>match x with
  |.inl y=>match Hf o.2 with
   |true=>JV R (given (bs.drop np)) (bs.take np) fr rs (encode (cellsOf rs) o.2 y) (Ch (C1 o.2) (bs.take np) slot) H fz k
   |false=>none
  |.inr x=>F6 R np bs fr rs slot H fz k r x
def ALS(np na:Nat)(its:AE)(os:A0)(rs:List RS)(f:B7 (leaves its)→Option (Np os)):Spec:=fun R args H fz slot k=>
 match dec args H its fz []with
 |none=>none
 |some (x,bs,fr)=>match bs.all Bnd.AXB&&decide (bs.length=C1 its)&&decide (args.length=na)&&Hf its with
  |false=>none
  |true=>match f x with
   |none=>none
   |some y=>F6 R np bs fr rs slot H fz k os y
def DC(P:Program)(E:Env)(h:Hints)(fn:Func):Spec:=fun R args H fz _ k=>
 match fn.body with
 |none=>none
 |some c=>match decide (args.length≤fn.ntmps)with
  |false=>none
  |true=>BD P E h R c 0 { tmps:=args++List.replicate (fn.ntmps-args.length) .junk,heap:=H,frz:=fz } fun e st=>
   match e with
   |.normal=>match DF P st fn.results.toList with
    |some vs=>k (single vs) { heap:=some (st.heap,st.frz) }
    |none=>none
   |.ret=>match DF P st fn.results.toList with
    |some vs=>k (single vs) { heap:=some (st.heap,st.frz) }
    |none=>none
   |_=>none
end
end Go.Pev
end
section
namespace Go.Pev
open Go.RowKit
def rows{α:Type}(R:α→List Value→Prop):List α→List Value→Prop
 |[],cs=>cs=[]
 |x::xs,cs=>∃ c1 c2,cs=c1++c2∧R x c1∧rows R xs c2
def AAx{α β:Type}(K:α→Value→Prop)(V:β→Value→Prop):List (α×β)→List MapEntry→Prop
 |[],ms=>ms=[]
 |e::es,ms=>∃ me ms',ms=me::ms'∧K e.1 me.key∧V e.2 me.val∧AAx K V es ms'
def Dat(w:World)(F:Nat→Prop):(t:Ty)→t.den→List Value→Prop
 |.unit,_,cs=>cs=[]
 |.bool,b,cs=>cs=[.bool b]
 |.int k,n,cs=>cs=[.int k n]
 |.slice e,xs,cs=>∃ a cap,cs=[.slice a (List.length (α:=e.den) xs) cap]∧List.length (α:=e.den) xs≤cap∧(xs≠[]→∃ ad row,a=some ad∧F ad.block∧rows (Dat w F e) xs row ∧
   ∀ j u,row[j]? = some u→w.cell? (ad.add j)=some u)
 |.prod a b,d,cs=>∃ c1 c2,cs=c1++c2∧Dat w F a d.1 c1∧Dat w F b d.2 c2
 |.arr n e,xs,cs=>List.length (α:=e.den) xs=n∧rows (Dat w F e) xs cs
 |.nul _,_,cs=>cs=[.slice none 0 0]
 |.mapi j e,es,cs=>∃ b ms clock,cs=[.map (some b)]∧F b∧w.heap[b]? = some (.map ms clock)∧AAx (fun d v=>v = .int j d) (fun d v=>Dat w F e d [v]) es ms.toList
def Bf(w:World)(F:Nat→Prop)(t:Ty)(d:t.den)(v:Value):Prop:=
 if t.isAgg then ∃ vs,v = .agg vs∧Dat w F t d vs.toList else Dat w F t d [v]
inductive Ix where
 |o (i:Nat)
 |r (i k:Nat)
 deriving DecidableEq
instance:Coe Nat Ix:=⟨.o⟩
def Ix.id:Ix→Nat
 |.o i=>i
 |.r i _=>i
abbrev Mp:=Ix→Option (Nat×Nat)
def A6(o:Option Ob)(l:Option (Nat×Nat))(v:Value):Prop:=
 match o with
 |some (.arr _ t xs)=>match l with
  |none=>∃ a,v = .slice a 0 0
  |some (b,cap)=>v = .slice (some ⟨b,0,none⟩) (List.length (α:=t.den) xs) cap
 |some (.prs _ _ is)=>match l with
  |none=>∃ a,v = .slice a 0 0
  |some (b,cap)=>v = .slice (some ⟨b,0,none⟩) is.length cap
 |some (.rows (.arr _) _ t xs _ _)=>match l with
  |none=>∃ a,v = .slice a 0 0
  |some (b,cap)=>v = .slice (some ⟨b,0,none⟩) (List.length (α:=List t.den) xs) cap
 |some .dead=>v.oneCell'=true
 |_=>False
def ABg(o:Option Ob)(l:Option (Nat×Nat))(i ver:Nat)(v:Value):Prop:=
 match o with
 |some (.rows K _ t xs ver' _)=>v.oneCell'=true∧ver≤ver'∧(ver=ver'→(∃ ys:List t.den,xs[i]? = some ys∧A6 (some (.arr 0 t ys)) l v)∨(K.IW=false∧i=List.length (α:=List t.den) xs∧v = .slice none 0 0))
 |some .dead=>v.oneCell'=true
 |_=>False
def Ga(o:Option Ob)(l:Option (Nat×Nat))(off n:Nat)(v:Value):Prop:=
 match o with
 |some (.arr _ t xs)=>off+n≤List.length (α:=t.den) xs∧match l with
  |none=>∃ a,v = .slice a n 0
  |some (b,cap)=>∃ a,v = .slice a n (cap-off)∧(off<cap→a=some ⟨b,off*t.size,none⟩)
 |some .dead=>v.oneCell'=true
 |_=>False
def Gb(o:Option Ob)(l:Option (Nat×Nat))(off:Nat)(v:Value):Prop:=
 match o with
 |some (.box _)=>∃ b c,l=some (b,c)∧v = .pointer (some ⟨b,off,none⟩)
 |some .dead=>v.oneCell'=true
 |_=>False
def Cj(o:Option Ob)(l:Option (Nat×Nat))(i sub:Nat)(v:Value):Prop:=
 match o with
 |some (.arr _ t xs)=>i<List.length (α:=t.den) xs∧∃ b c,l=some (b,c)∧v = .pointer (some ⟨b,i*t.size+sub,none⟩)
 |some (.prs _ _ is)=>i<is.length∧∃ b c,l=some (b,c)∧v = .pointer (some ⟨b,i+sub,none⟩)
 |some (.rows (.arr _) _ t xs _ _)=>i<List.length (α:=List t.den) xs∧∃ b c,l=some (b,c)∧v = .pointer (some ⟨b,i+sub,none⟩)
 |some .dead=>v.oneCell'=true
 |_=>False
def Lc(o:Option Ob)(l:Option (Nat×Nat))(v:Value):Prop:=
 match o with
 |some (.map _ _ _)=>∃ b c,l=some (b,c)∧v = .map (some b)
 |some (.rows (.map _ _) _ _ _ _ _)=>∃ b c,l=some (b,c)∧v = .map (some b)
 |some .dead=>v.oneCell'=true
 |_=>False
def E0(o:Option Ob)(l:Option (Nat×Nat))(n:Nat)(v:Value):Prop:=
 match o with
 |some (.arr _ t xs)=>List.length (α:=t.den) xs=n∧∃ b,l=some (b,n)∧v = .pointer (some ⟨b,0,none⟩)
 |some .dead=>v.oneCell'=true
 |_=>False
theorem A6.one{o:Ob}{l:Option (Nat×Nat)}{v:Value}(h:A6 (some o) l v):v.oneCell'=true:=by
 unfold A6 at h
 split at h
 all_goals try exact h.elim
 all_goals try exact h
 all_goals
  cases l with
  |none=>obtain⟨a,rfl⟩:=h;rfl
  |some p=>obtain⟨b,c⟩:=p;simp only at h;subst h;rfl
theorem Ga.one{o:Ob}{l:Option (Nat×Nat)}{off n:Nat}{v:Value}(h:Ga (some o) l off n v):v.oneCell'=true:=by
 unfold Ga at h
 cases o<;>simp only at h<;>first|exact h.elim|exact h|skip
 obtain⟨_,h⟩:=h
 cases l with
 |none=>obtain⟨a,rfl⟩:=h;rfl
 |some p=>obtain⟨b,c⟩:=p;obtain⟨a,rfl,_⟩:=h;rfl
theorem Gb.one{o:Ob}{l:Option (Nat×Nat)}{off:Nat}{v:Value}(h:Gb (some o) l off v):v.oneCell'=true:=by
 unfold Gb at h
 cases o<;>simp only at h<;>first|exact h.elim|exact h|skip
 obtain⟨b,c,_,rfl⟩:=h;rfl
theorem Cj.one{o:Ob}{l:Option (Nat×Nat)}{i sub:Nat}{v:Value}(h:Cj (some o) l i sub v):v.oneCell'=true:=by
 unfold Cj at h
 split at h
 all_goals try exact h.elim
 all_goals try exact h
 all_goals obtain⟨_,b,c,_,rfl⟩:=h;rfl
theorem ABg.one{o:Ob}{l:Option (Nat×Nat)}{i ver:Nat}{v:Value}(h:ABg (some o) l i ver v):v.oneCell'=true:=by
 unfold ABg at h
 cases o<;>simp only at h<;>first|exact h.elim|exact h|exact h.1
theorem Lc.one{o:Ob}{l:Option (Nat×Nat)}{v:Value}(h:Lc (some o) l v):v.oneCell'=true:=by
 unfold Lc at h
 split at h
 all_goals try exact h.elim
 all_goals try exact h
 all_goals obtain⟨b,c,_,rfl⟩:=h;rfl
theorem E0.one{o:Ob}{l:Option (Nat×Nat)}{n:Nat}{v:Value}(h:E0 (some o) l n v):v.oneCell'=true:=by
 unfold E0 at h
 split at h
 all_goals try exact h.elim
 all_goals try exact h
 all_goals obtain⟨_,b,_,rfl⟩:=h;rfl
section
variable (w:World) (F:Nat→Prop) (m:Mp) (H:List Ob)
mutual
def Rep:AV→Value→Prop
 |.junk,_=>True
 |.data t d,v=>Bf w F t d v
 |.nils _,v=>v = .slice none 0 0
 |.agg cs,v=>∃ vs,v = .agg vs∧Aa cs vs.toList∧∀ u∈vs.toList,u.oneCell'=true
 |.own id,v=>A6 H[id]? (m id) v
 |.win id off n,v=>Ga H[id]? (m id) off n v
 |.ptr id off,v=>Gb H[id]? (m id) off v
 |.eptr id i sub,v=>Cj H[id]? (m id) i sub v
 |.dptr cs,v=>∃ ad us,v = .pointer (some ad)∧(cs≠[]→F ad.block)∧Aa cs us∧(∀ u∈us,u.oneCell'=true)∧∀ j u,us[j]? = some u→w.cell? (ad.add j)=some u
 |.clo f caps,v=>∃ cs,v = .func (.func f) #[] cs∧Aa caps cs.toList
 |.bnd f fs,v=>∃ cs,v = .func (.func f) cs #[]∧Aa fs cs.toList
 |.str xs,v=>∃ s,v = .string s∧bytesOf s=xs
 |.clip t xs,v=>Dat w F (.slice t) xs [v]∧∃ a,v = .slice a (List.length (α:=t.den) xs) (List.length (α:=t.den) xs)
 |.mp id,v=>Lc H[id]? (m id) v
 |.tup vs,v=>∃ us,v = .tuple us∧Aa vs us.toList
 |.rowp id i ver,v=>ABg H[id]? (m (.r id i)) i ver v
 |.glob g,v=>v = .pointer (some ⟨g,0,none⟩)
 |.nilp,v=>v = .pointer none
 |.aptr id n,v=>E0 H[id]? (m id) n v
def Aa:List AV→List Value→Prop
 |[],vs=>vs=[]
 |c::cs,vs=>∃ v vs',vs=v::vs'∧Rep c v∧Aa cs vs'
end
end
def Ad9(w:World)(F:Nat→Prop)(k v:Ty)(e:k.den×v.den)(me:MapEntry):Prop:=Bf w F k e.1 me.key∧Bf w F v e.2 me.val
def IK(w:World)(F:Nat→Prop)(k v:Ty):List (k.den×v.den)→List MapEntry→Prop
 |[],ms=>ms=[]
 |e::es,ms=>∃ me ms',ms=me::ms'∧Ad9 w F k v e me∧IK w F k v es ms'
def Fe(ms:Array MapEntry)(clock:Nat):Prop:=clock=ms.size∧∀ (i:Nat) (e:MapEntry),ms[i]? = some e→e.born=i
def Hdr(w:World)(K:RK)(n:Nat)(out:Option Nat)(b cap:Nat):Prop:=
 match K with
 |.arr T=>∃ vs,w.heap[b]? = some (.cells vs T (0,0))∧n≤cap∧cap≤maxLen∧vs.size=cap∧∀ u∈vs.toList,u.oneCell'=true
 |.map j ks=>∃ ms clock,w.heap[b]? = some (.map ms clock)∧Fe ms clock∧ms.toList.map (·.key)=ks.map (Value.int j)∧(n=ks.length∨(out=some ks.length∧n=ks.length+1))∧∀ k,out=some k→k<n
def II(w:World)(K:RK)(b k:Nat)(u:Value):Prop:=
 match K with
 |.arr T=>∃ vs,w.heap[b]? = some (.cells vs T (0,0))∧vs.toList[k]? = some u
 |.map _ _=>∃ ms clock e,w.heap[b]? = some (.map ms clock)∧ms.toList[k]? = some e∧e.val=u
def ObI(w:World)(F:Nat→Prop)(m:Mp)(H:List Ob)(o:Ob)(l:Option (Nat×Nat)):Prop:=
 match o with
 |.free=>True
 |.dead=>True
 |.box cs=>∃ b c vs T,l=some (b,c)∧w.heap[b]? = some (.cells vs T (0,0))∧Aa w F m H cs vs.toList∧∀ u∈vs.toList,u.oneCell'=true
 |.arr T t xs=>0<t.size∧match l with
  |none=>xs=[]
  |some (b,cap)=>∃ vs row,w.heap[b]? = some (.cells vs T (0,0))∧List.length (α:=t.den) xs≤cap∧cap≤maxLen∧vs.size=cap*t.size∧rows (Dat w F t) xs row∧vs.toList.take row.length=row
 |.map k v es=>∃ b c ms clock,l=some (b,c)∧w.heap[b]? = some (.map ms clock)∧IK w F k v es ms.toList∧Fe ms clock
 |.prs T tgt is=>match l with
  |none=>is=[]
  |some (b,cap)=>∃ vs us,w.heap[b]? = some (.cells vs T (0,0))∧is.length≤cap∧cap≤maxLen∧vs.size=cap∧Aa w F m H (FF tgt is) us∧(∀ u∈us,u.oneCell'=true)∧vs.toList.take us.length=us
 |.rows K _ t xs _ out=>0<t.size∧match l with
  |none=>K.IW=true∧xs=[]
  |some (b,cap)=>Hdr w K (List.length (α:=List t.den) xs) out b cap
def Bq(H:List Ob)(fz:List Bool)(i:Nat):Prop:=
 match H[i]? with
 |some (.box _)=>True
 |some (.map _ _ _)=>True
 |some (.prs _ _ _)=>True
 |some (.arr _ _ _)=>fz.getD i false=false
 |some (.rows _ _ _ _ _ _)=>fz.getD i false=false
 |_=>False
def owned(H:List Ob)(fz:List Bool):Ix→Prop
 |.o i=>Bq H fz i
 |.r i k=>match H[i]? with
  |some (.rows _ _ t xs _ _)=>k<List.length (α:=List t.den) xs∧fz.getD i false=false
  |_=>False
def there(H:List Ob):Ix→Prop
 |.o i=>∃ o,H[i]? = some o∧o≠.free∧o≠.dead
 |.r i k=>match H[i]? with
  |some (.rows _ _ t xs _ _)=>k<List.length (α:=List t.den) xs
  |_=>False
def B0(w:World)(F:Nat→Prop)(m:Mp)(H:List Ob)(i:Nat):Prop:=
 ∀ T e t xs ver out,H[i]? = some (.rows T e t xs ver out)→∀ (k:Nat) (ys:List t.den),xs[k]? = some ys →
  ObI w F m H (.arr e t ys) (m (.r i k))∧(out≠some k→∃ b cap u,m i=some (b,cap)∧II w T b k u∧A6 (some (.arr e t ys)) (m (.r i k)) u)
def AXA(w:World)(F:Nat→Prop):Prop:=∀ p∈AHk,F p.1∧∀ (j:Nat) (n:Int),p.2.2[j]? = some n→w.cell? ⟨p.1,j,none⟩=some (.int p.2.1 n)
structure HI(w:World)(F:Nat→Prop)(m:Mp)(H:List Ob)(fz:List Bool):Prop where
 obj:∀ (id:Nat) o,H[id]? = some o→ObI w F m H o (m id)
 row:∀ i,B0 w F m H i
 rfz:∀ (i:Nat) T e t xs ver out,H[i]? = some (.rows T e t xs ver out)→fz.getD i false=true→∀ x:Ix,x.id=i→there H x→∀ b c,m x=some (b,c)→F b
 sep:∀ i j b c b' c',owned H fz i→owned H fz j→i≠j→m i=some (b,c)→m j=some (b',c')→b≠b'
 off:∀ i b c,owned H fz i→m i=some (b,c)→¬ F b
 froz:∀ (i:Nat) T t xs b c,H[i]? = some (.arr T t xs)→fz.getD i false=true→m i=some (b,c)→F b
 lt:∀ b,F b→b<w.heap.size
 glo:AXA w F
 len:H.length=fz.length
def PX:Ob→Nat
 |.rows _ _ _ _ ver _=>ver
 |_=>0
def sameShape:Ob→Ob→Prop
 |.box _,.box _=>True
 |.map _ _ _,.map _ _ _=>True
 |.prs _ _ is,.prs _ _ is'=>is.length=is'.length
 |.rows K e t xs ver out,.rows K' e' t' xs' ver' out'=>K.IW=K'.IW∧(K.IW=true→List.length (α:=List t.den) xs=List.length (α:=List t'.den) xs')∧(ver<ver'∨ver=ver'∧(⟨t,xs⟩:(t:Ty)×List (List t.den))=⟨t',xs'⟩)
 |.arr _ t xs,.arr _ t' xs'=>t.size=t'.size∧List.length (α:=t.den) xs=List.length (α:=t'.den) xs'
 |_,_=>False
def CH(H H':List Ob)(m m':Mp):Prop:=
 ∀ (i:Nat) (o:Ob),H[i]? = some o→o≠.free→H'[i]? = some .dead∨(o≠.dead∧∃ o',H'[i]? = some o'∧sameShape o o'∧m' i=m i∧(BS o=false→PX o'=PX o→∀ k,m' (.r i k)=m (.r i k)))
structure Ext(w:World)(F:Nat→Prop)(m:Mp)(H:List Ob)(fz:List Bool)(w':World)(F':Nat→Prop)(m':Mp)(H':List Ob)(fz':List Bool):Prop where
 os:w'.os=w.os
 tape:w'.tape=w.tape
 output:w'.output=w.output
 size:w.heap.size≤w'.heap.size
 keep:∀ b,b<w.heap.size→(∀ i c,owned H fz i→m i≠some (b,c))→w'.heap[b]? = w.heap[b]?
 sub:∀ b,F b→F' b
 bnd:∀ b,F' b→F b∨(∃ i c,owned H fz i∧m i=some (b,c))∨w.heap.size≤b
 own:∀ i b c,owned H' fz' i→m' i=some (b,c)→(∃ i c,owned H fz i∧m i=some (b,c))∨w.heap.size≤b
 comp:CH H H' m m'
theorem BK{α:Type}{R R':α→List Value→Prop}{xs:List α}(h:∀ x∈xs,∀ cs,R x cs→R' x cs):∀ {cs},rows R xs cs→rows R' xs cs:=by
 induction xs with
 |nil=>exact fun h=>h
 |cons x xs ih=>
  rintro cs ⟨c1,c2,rfl,h1,h2⟩
  exact⟨c1,c2,rfl,h x (by simp) _ h1,ih (fun y hy=>h y (by simp[hy])) h2⟩
theorem ARA{α β:Type}{K:α→Value→Prop}{V V':β→Value→Prop}(h:∀ x v,V x v→V' x v):∀ {es:List (α×β)} {ms},AAx K V es ms→AAx K V' es ms:=by
 intro es
 induction es with
 |nil=>exact fun h=>h
 |cons e es ih=>
  rintro ms ⟨me,ms',e1,h1,h2,h3⟩
  exact⟨me,ms',e1,h1,h _ _ h2,ih h3⟩
theorem Dat.mono{w w':World}{F F':Nat→Prop}(hc:∀ b,F b→w'.heap[b]? = w.heap[b]?)(hF:∀ b,F b→F' b):
  ∀ (t:Ty) {d:t.den} {cs:List Value},Dat w F t d cs→Dat w' F' t d cs:=by
 have hcell:∀ a:Addr,F a.block→w'.cell? a=w.cell? a:=fun a ha=>by simp only[World.cell?,hc _ ha]
 have hadd:∀ (a:Addr) (n:Nat),(a.add n).block=a.block:=fun a n=>by unfold Addr.add;split<;>rfl
 intro t
 induction t with
 |unit=>exact fun h=>h
 |bool=>exact fun h=>h
 |int k=>exact fun h=>h
 |slice e ih=>
  rintro d cs ⟨a,cap,h1,h2,h3⟩
  refine⟨a,cap,h1,h2,fun hne => ?_⟩
  obtain⟨ad,row,e1,e2,e3,e4⟩:=h3 hne
  exact⟨ad,row,e1,hF _ e2,BK (fun x _ cs hx=>ih hx) e3,fun j u hu=>(hcell _ (by rw[hadd];exact e2)).trans (e4 j u hu)⟩
 |prod a b iha ihb=>
  rintro d cs ⟨c1,c2,h1,h2,h3⟩
  exact⟨c1,c2,h1,iha h2,ihb h3⟩
 |arr n e ih=>
  rintro d cs ⟨h1,h2⟩
  exact⟨h1,BK (fun x _ cs hx=>ih hx) h2⟩
 |nul e=>exact fun h=>h
 |mapi j e ih=>
  rintro d cs ⟨b,ms,clock,h1,h2,h3,h4⟩
  exact⟨b,ms,clock,h1,hF _ h2,(hc _ h2).trans h3,ARA (fun x v hx=>ih hx) h4⟩
theorem Bf.mono{w w':World}{F F':Nat→Prop}(hc:∀ b,F b→w'.heap[b]? = w.heap[b]?)(hF:∀ b,F b→F' b)
  {t:Ty} {d:t.den} {v:Value} (h:Bf w F t d v):Bf w' F' t d v:=by
 unfold Bf at *
 split
 ·rename_i hg
  simp only[hg,AfS]at h
  obtain⟨vs,e,hd⟩:=h
  exact⟨vs,e,hd.mono hc hF t⟩
 ·rename_i hg
  simp only[hg]at h
  exact Dat.mono hc hF t h
theorem A3{α:Type}{R:α→List Value→Prop}{n:Nat}(h:∀ x cs,R x cs→cs.length=n):∀ {xs:List α} {cs},rows R xs cs→cs.length=xs.length*n:=by
 intro xs
 induction xs with
 |nil=>rintro cs rfl;simp
 |cons x xs ih=>
  rintro cs ⟨c1,c2,rfl,h1,h2⟩
  rw[Aey,h _ _ h1,ih h2,Aex,Afp,AgV,Nat.add_comm]
theorem Dat.length{w:World}{F:Nat→Prop}:∀ (t:Ty) {d:t.den} {cs:List Value},Dat w F t d cs→cs.length=t.size:=by
 intro t
 induction t with
 |unit=>rintro d cs rfl;rfl
 |bool=>rintro d cs rfl;rfl
 |int k=>rintro d cs rfl;rfl
 |slice e ih=>rintro d cs ⟨a,cap,rfl,_,_⟩;rfl
 |prod a b iha ihb=>
  rintro d cs ⟨c1,c2,rfl,h2,h3⟩
  rw[Aey,iha h2,ihb h3];rfl
 |arr n e ih=>
  rintro d cs ⟨h1,h2⟩
  rw[A3 (fun x cs hx=>ih hx) h2,h1];rfl
 |nul e=>rintro d cs rfl;rfl
 |mapi j e ih=>rintro d cs ⟨b,ms,clock,rfl,_⟩;rfl
theorem Px{α:Type}{R:α→List Value→Prop}{p:Value→Prop}(h:∀ x cs,R x cs→∀ u∈cs,p u):∀ {xs:List α} {cs},rows R xs cs→∀ u∈cs,p u:=by
 intro xs
 induction xs with
 |nil=>rintro cs rfl u hu;cases hu
 |cons x xs ih=>
  rintro cs ⟨c1,c2,rfl,h1,h2⟩ u hu
  rcases Aeu.1 hu with hu|hu
  ·exact h _ _ h1 u hu
  ·exact ih h2 u hu
theorem Dat.Gm{w:World}{F:Nat→Prop}:∀ (t:Ty) {d:t.den} {cs:List Value},Dat w F t d cs→∀ u∈cs,u.oneCell'=true:=by
 intro t
 induction t with
 |unit=>rintro d cs rfl u hu;cases hu
 |bool=>rintro d cs rfl u hu;simp at hu;subst hu;rfl
 |int k=>rintro d cs rfl u hu;simp at hu;subst hu;rfl
 |slice e ih=>rintro d cs ⟨a,cap,rfl,_,_⟩ u hu;simp at hu;subst hu;rfl
 |prod a b iha ihb=>
  rintro d cs ⟨c1,c2,rfl,h2,h3⟩ u hu
  rcases Aeu.1 hu with hu|hu
  ·exact iha h2 u hu
  ·exact ihb h3 u hu
 |arr n e ih=>
  rintro d cs ⟨h1,h2⟩
  exact Px (fun x cs hx=>ih hx) h2
 |nul e=>rintro d cs rfl u hu;simp at hu;subst hu;rfl
 |mapi j e ih=>rintro d cs ⟨b,ms,clock,rfl,_⟩ u hu;simp at hu;subst hu;rfl
theorem Ar{w:World}{F:Nat→Prop}{m:Mp}{H:List Ob}:∀ {cs:List AV} {vs:List Value},Aa w F m H cs vs→vs.length=cs.length:=by
 intro cs
 induction cs with
 |nil=>intro vs h;unfold Aa at h;subst h;rfl
 |cons c cs ih=>
  intro vs h;unfold Aa at h
  obtain⟨v,vs',rfl,_,h⟩:=h
  simp[ih h]
theorem CN{w:World}{F:Nat→Prop}{m:Mp}{H:List Ob}:∀ {cs:List AV} {vs:List Value},Aa w F m H cs vs→∀ {i:Nat} {c:AV},cs[i]? = some c→∃ v,vs[i]? = some v∧Rep w F m H c v:=by
 intro cs
 induction cs with
 |nil=>intro vs _ i c hc;simp at hc
 |cons c cs ih=>
  intro vs h i c' hc;unfold Aa at h
  obtain⟨v,vs',rfl,hv,h⟩:=h
  cases i with
  |zero=>simp at hc;subst hc;exact⟨v,rfl,hv⟩
  |succ i=>simpa using ih h (by simpa using hc)
theorem DM{w:World}{F:Nat→Prop}{m:Mp}{H:List Ob}:∀ {cs:List AV} {vs:List Value},vs.length=cs.length→(∀ (i:Nat) (c:AV) (v:Value),cs[i]? = some c→vs[i]? = some v→Rep w F m H c v)→Aa w F m H cs vs:=by
 intro cs
 induction cs with
 |nil=>intro vs h _;unfold Aa;exact AfA h
 |cons c cs ih=>
  intro vs hl h;unfold Aa
  match vs,hl with
  |v::vs',hl=>exact⟨v,vs',rfl,h 0 c v rfl rfl,ih (by simpa using hl) fun i c v hc hv=>h (i+1) c v (by simpa using hc) (by simpa using hv)⟩
theorem GP{w:World}{F:Nat→Prop}{m:Mp}{H:List Ob}{cs cs':List AV}{vs vs':List Value}(h:Aa w F m H cs vs)(h':Aa w F m H cs' vs'):Aa w F m H (cs++cs') (vs++vs'):=by
 induction cs generalizing vs with
 |nil=>unfold Aa at h;subst h;simpa using h'
 |cons c cs ih=>
  unfold Aa at h
  obtain⟨v,vs1,rfl,hv,h⟩:=h
  simp only[AfK]
  unfold Aa
  exact⟨v,_,rfl,hv,ih h⟩
theorem NZ{w:World}{F:Nat→Prop}{m:Mp}{H:List Ob}{cs:List AV}{vs:List Value}(h:Aa w F m H cs vs)(n:Nat):Aa w F m H (cs.take n) (vs.take n):=by
 refine DM (by simp[Ar h]) fun i c v hc hv => ?_
 rw[Afd]at hc hv
 split at hc
 ·rename_i hi
  simp only[hi,AfS]at hv
  obtain⟨v',hv',hr⟩:=CN h hc
  rw[hv]at hv';cases hv';exact hr
 ·cases hc
theorem EX{w:World}{F:Nat→Prop}{m:Mp}{H:List Ob}{cs:List AV}{vs:List Value}(h:Aa w F m H cs vs)(n:Nat):Aa w F m H (cs.drop n) (vs.drop n):=by
 refine DM (by simp[Ar h]) fun i c v hc hv => ?_
 rw[Afo]at hc hv
 obtain⟨v',hv',hr⟩:=CN h hc
 rw[hv]at hv';cases hv';exact hr
section
variable {w w':World} {F F':Nat→Prop} {m m':Mp} {H H':List Ob}
theorem Fb(hcomp:CH H H' m m')(P:Option Ob→Option (Nat×Nat)→Prop)(hdead:∀ o l l',P (some o) l→P (some .dead) l')(hnone:∀ l,¬ P none l)(hfree:∀ l,¬ P (some .free) l)
  (hsame:∀ o o' l,sameShape o o'→P (some o) l→P (some o') l) (i:Nat) (h:P H[i]? (m i)):P H'[i]? (m' i):=by
 cases ho:H[i]? with
 |none=>rw[ho]at h;exact absurd h (hnone _)
 |some o=>
  rw[ho]at h
  by_cases hf:o = .free
  ·subst hf;exact absurd h (hfree _)
  ·rcases hcomp i o ho hf with h1|⟨_,o',h1,h2,h3,_⟩
   ·rw[h1];exact hdead _ _ _ h
   ·rw[h1,h3];exact hsame o o' _ h2 h
mutual
theorem Rep.mono(hc:∀ b,F b→w'.heap[b]? = w.heap[b]?)(hF:∀ b,F b→F' b)(hcomp:CH H H' m m'):∀ (a:AV) {v:Value},Rep w F m H a v→Rep w' F' m' H' a v
 |.junk,_,_=>by unfold Rep;trivial
 |.data t d,v,h=>by unfold Rep at *;exact h.mono hc hF
 |.nils _,v,h=>by unfold Rep at *;exact h
 |.agg cs,v,h=>by
  unfold Rep at *
  obtain⟨vs,e,h,h1⟩:=h
  exact⟨vs,e,Aa.mono hc hF hcomp cs h,h1⟩
 |.own id,v,h=>by
  unfold Rep at *
  refine Fb hcomp (fun o l=>A6 o l v) (fun o l l'=>A6.one) (fun l h=>h) (fun l h=>h) ?_ id h
  intro o o' l hs h
  cases o<;>cases o'<;>simp only[sameShape]at hs<;>try exact hs.elim
  ·exact h.elim
  ·obtain⟨hz,hl⟩:=hs
   unfold A6 at *
   simp only at *
   rw[← hl];exact h
  ·exact h.elim
  ·unfold A6 at *
   simp only at *
   rw[← hs];exact h
  ·rename_i K _ _ _ _ _ K' _ _ _ _ _
   cases K<;>cases K'<;>first|(cases hs.1;done)|exact h.elim|skip
   unfold A6 at *
   simp only at *
   rw[← hs.2.1 rfl];exact h
 |.win id off n,v,h=>by
  unfold Rep at *
  refine Fb hcomp (fun o l=>Ga o l off n v) (fun o l l'=>Ga.one) (fun l h=>h) (fun l h=>h) ?_ id h
  intro o o' l hs h
  cases o<;>cases o'<;>simp only[sameShape]at hs<;>try exact hs.elim
  ·exact h.elim
  ·obtain⟨hz,hl⟩:=hs
   unfold Ga at *
   simp only at *
   rw[← hl,← hz];exact h
  ·exact h.elim
  ·exact h.elim
  ·exact h.elim
 |.ptr id off,v,h=>by
  unfold Rep at *
  refine Fb hcomp (fun o l=>Gb o l off v) (fun o l l'=>Gb.one) (fun l h=>h) (fun l h=>h) ?_ id h
  intro o o' l hs h
  cases o<;>cases o'<;>simp only[sameShape]at hs<;>try exact hs.elim
  ·exact h
  ·exact h.elim
  ·exact h.elim
  ·exact h.elim
  ·exact h.elim
 |.eptr id i sub,v,h=>by
  unfold Rep at *
  refine Fb hcomp (fun o l=>Cj o l i sub v) (fun o l l'=>Cj.one) (fun l h=>h) (fun l h=>h) ?_ id h
  intro o o' l hs h
  cases o<;>cases o'<;>simp only[sameShape]at hs<;>try exact hs.elim
  ·exact h.elim
  ·obtain⟨hz,hl⟩:=hs
   unfold Cj at *
   simp only at *
   rw[← hl,← hz];exact h
  ·exact h.elim
  ·unfold Cj at *
   simp only at *
   rw[← hs];exact h
  ·rename_i K _ _ _ _ _ K' _ _ _ _ _
   cases K<;>cases K'<;>first|(cases hs.1;done)|exact h.elim|skip
   unfold Cj at *
   simp only at *
   rw[← hs.2.1 rfl];exact h
 |.dptr cs,v,h=>by
  unfold Rep at *
  obtain⟨ad,us,e,h1,h2,h4,h3⟩:=h
  refine⟨ad,us,e,fun hne=>hF _ (h1 hne),Aa.mono hc hF hcomp cs h2,h4,fun j u hu => ?_⟩
  have hadd:(ad.add j).block=ad.block:=by unfold Addr.add;split<;>rfl
  have hne:cs≠[]:=by
   rintro rfl
   unfold Aa at h2;subst h2;simp at hu
  have h3:=h3 j u hu
  simp only[World.cell?]at h3 ⊢
  rw[hc _ (by rw[hadd];exact h1 hne)]
  exact h3
 |.clo f caps,v,h=>by
  unfold Rep at *
  obtain⟨cs,e,h⟩:=h
  exact⟨cs,e,Aa.mono hc hF hcomp caps h⟩
 |.bnd f caps,v,h=>by
  unfold Rep at *
  obtain⟨cs,e,h⟩:=h
  exact⟨cs,e,Aa.mono hc hF hcomp caps h⟩
 |.str _,v,h=>by unfold Rep at *;exact h
 |.clip t xs,v,h=>by unfold Rep at *;exact⟨Dat.mono hc hF (.slice t) h.1,h.2⟩
 |.mp id,v,h=>by
  unfold Rep at *
  refine Fb hcomp (fun o l=>Lc o l v) (fun o l l'=>Lc.one) (fun l h=>h) (fun l h=>h) ?_ id h
  intro o o' l hs h
  cases o<;>cases o'<;>simp only[sameShape]at hs<;>try exact hs.elim
  ·exact h.elim
  ·exact h.elim
  ·exact h
  ·exact h.elim
  ·rename_i K _ _ _ _ _ K' _ _ _ _ _
   cases K<;>cases K'<;>first|(cases hs.1;done)|exact h.elim|exact h
 |.glob g,v,h=>by unfold Rep at *;exact h
 |.nilp,v,h=>by unfold Rep at *;exact h
 |.aptr id n,v,h=>by
  unfold Rep at *
  refine Fb hcomp (fun o l=>E0 o l n v) (fun o l l'=>E0.one) (fun l h=>h) (fun l h=>h) ?_ id h
  intro o o' l hs h
  cases o<;>cases o'<;>simp only[sameShape]at hs<;>try exact hs.elim
  ·exact h.elim
  ·obtain⟨hz,hl⟩:=hs
   unfold E0 at *
   simp only at *
   rw[← hl];exact h
  ·exact h.elim
  ·exact h.elim
  ·exact h.elim
 |.tup vs,v,h=>by
  unfold Rep at *
  obtain⟨us,e,h⟩:=h
  exact⟨us,e,Aa.mono hc hF hcomp vs h⟩
 |.rowp id i ver,v,h=>by
  unfold Rep at *
  cases ho:H[id]? with
  |none=>rw[ho]at h;exact h.elim
  |some o=>
   rw[ho]at h
   have hone:=ABg.one h
   by_cases hf:o = .free
   ·subst hf;exact h.elim
   ·rcases hcomp id o ho hf with h1|⟨_,o',h1,h2,h3,h4⟩
    ·rw[h1];exact hone
    ·rw[h1]
     cases o<;>(try exact h.elim)<;>cases o'<;>simp only[sameShape]at h2
     ·obtain⟨_,h6,h7⟩:=h
      obtain⟨ha,h8,h9⟩:=h2
      refine⟨hone,?_,fun e => ?_⟩
      ·rcases h9 with h9|⟨h9,_⟩<;>omega
      ·rcases h9 with h9|⟨h9,h10⟩
       ·omega
       ·subst h9
        cases h10
        rw[h4 rfl rfl i,← ha]
        exact h7 e
theorem Aa.mono(hc:∀ b,F b→w'.heap[b]? = w.heap[b]?)(hF:∀ b,F b→F' b)(hcomp:CH H H' m m'):∀ (cs:List AV) {vs:List Value},Aa w F m H cs vs→Aa w' F' m' H' cs vs
 |[],vs,h=>by unfold Aa at *;exact h
 |c::cs,vs,h=>by
  unfold Aa at *
  obtain⟨v,vs',e,h1,h2⟩:=h
  exact⟨v,vs',e,Rep.mono hc hF hcomp c h1,Aa.mono hc hF hcomp cs h2⟩
end
theorem CH.refl(H:List Ob)(m:Mp):CH H H m m:=by
 intro i o ho _
 by_cases hd:o = .dead
 ·subst hd;exact .inl ho
 ·refine .inr ⟨hd,o,ho,?_,rfl,fun _ _ _=>rfl⟩
  cases o<;>simp_all [sameShape]
theorem sameShape.trans{a b c:Ob}(h:sameShape a b)(h':sameShape b c):sameShape a c:=by
 cases a<;>cases b<;>simp only[sameShape]at h<;>(try exact h.elim)<;>cases c<;>simp only[sameShape]at h'<;>(try exact h'.elim)<;>simp only[sameShape]
 ·exact⟨h.1.trans h'.1,h.2.trans h'.2⟩
 ·exact h.trans h'
 ·refine⟨h.1.trans h'.1,fun hk=>(h.2.1 hk).trans (h'.2.1 (h.1▸hk)),?_⟩
  rcases h.2.2 with h1|⟨h1,h2⟩<;>rcases h'.2.2 with h3|⟨h3,h4⟩
  ·exact .inl (Nat.lt_trans h1 h3)
  ·exact .inl (h3▸h1)
  ·exact .inl (h1▸h3)
  ·exact .inr ⟨h1.trans h3,h2.trans h4⟩
theorem sameShape.ver{a b:Ob}(h:sameShape a b):PX a≤PX b∧BS a=BS b:=by
 cases a<;>cases b<;>simp only[sameShape]at h<;>(try exact h.elim)<;>(try exact⟨Aez _,rfl⟩)
 rcases h.2.2 with h1|⟨h1,_⟩
 ·exact⟨AgZ h1,rfl⟩
 ·exact⟨Ag2 h1,rfl⟩
theorem CH.trans{a b c:List Ob}{m m' m'':Mp}(h:CH a b m m')(h':CH b c m' m''):CH a c m m'':=by
 intro i o ho hf
 rcases h i o ho hf with h1|⟨hd,o',h1,h2,h3,hp⟩
 ·rcases h' i _ h1 (by simp)with h4|⟨h5,_⟩
  ·exact .inl h4
  ·exact absurd rfl h5
 ·have hf':o'≠.free:=by rintro rfl;cases o<;>simp[sameShape]at h2
  rcases h' i o' h1 hf' with h4|⟨_,o'',h4,h5,h6,hq⟩
  ·exact .inl h4
  ·refine .inr ⟨hd,o'',h4,h2.trans h5,h6.trans h3,fun a b k => ?_⟩
   have h8:=h2.ver
   have h9:=h5.ver
   exact(hq (h8.2▸a) (by omega) k).trans (hp a (by omega) k)
theorem Ext.refl(w:World)(F:Nat→Prop)(m:Mp)(H:List Ob)(fz:List Bool):Ext w F m H fz w F m H fz:=
 ⟨rfl,rfl,rfl,Aez _,fun _ _ _=>rfl,fun _ h=>h,fun _ h=>.inl h,fun i b c h1 h2=>.inl ⟨i,c,h1,h2⟩,CH.refl H m⟩
theorem Ext.trans{w w1 w2:World}{F F1 F2:Nat→Prop}{m m1 m2:Mp}{H H1 H2:List Ob}{fz fz1 fz2:List Bool}
  (h:Ext w F m H fz w1 F1 m1 H1 fz1) (k:Ext w1 F1 m1 H1 fz1 w2 F2 m2 H2 fz2):Ext w F m H fz w2 F2 m2 H2 fz2 where
 os:=k.os.trans h.os
 tape:=k.tape.trans h.tape
 output:=k.output.trans h.output
 size:=Afv h.size k.size
 keep b hb hn:=by
  rw[k.keep b (Af6 hb h.size) ?_,h.keep b hb hn]
  intro i c ho he
  rcases h.own i b c ho he with⟨i',c',h1,h2⟩|h1
  ·exact hn i' c' h1 h2
  ·omega
 sub b hb:=k.sub b (h.sub b hb)
 bnd b hb:=by
  rcases k.bnd b hb with h1|⟨i,c,h1,h2⟩|h1
  ·exact h.bnd b h1
  ·rcases h.own i b c h1 h2 with h3|h3
   ·exact .inr (.inl h3)
   ·exact .inr (.inr h3)
  ·exact .inr (.inr (Afv h.size h1))
 own i b c h1 h2:=by
  rcases k.own i b c h1 h2 with⟨i',c',h3,h4⟩|h3
  ·exact h.own i' b c' h3 h4
  ·exact .inr (Afv h.size h3)
 comp:=h.comp.trans k.comp
theorem Ext.frozen{fz fz':List Bool}(hi:HI w F m H fz)(h:Ext w F m H fz w' F' m' H' fz'){b:Nat}(hb:F b):w'.heap[b]? = w.heap[b]? :=
 h.keep b (hi.lt b hb) fun i c ho he=>hi.off i b c ho he hb
theorem Ext.cell{fz fz':List Bool}(hi:HI w F m H fz)(h:Ext w F m H fz w' F' m' H' fz')(a:Addr)(ha:F a.block):w'.cell? a=w.cell? a:=by
 simp[World.cell?,h.frozen hi ha]
theorem Ext.rep{fz fz':List Bool}(hi:HI w F m H fz)(h:Ext w F m H fz w' F' m' H' fz'){a:AV}{v:Value}(hr:Rep w F m H a v):Rep w' F' m' H' a v:=
 Rep.mono (fun b hb=>h.frozen hi hb) h.sub h.comp a hr
theorem Ext.Aei{fz fz':List Bool}(hi:HI w F m H fz)(h:Ext w F m H fz w' F' m' H' fz'){a:List AV}{v:List Value}(hr:Aa w F m H a v):Aa w' F' m' H' a v:=
 Aa.mono (fun b hb=>h.frozen hi hb) h.sub h.comp a hr
theorem Ext.dat{fz fz':List Bool}(hi:HI w F m H fz)(h:Ext w F m H fz w' F' m' H' fz'){t:Ty}{d:t.den}{v:List Value}(hr:Dat w F t d v):Dat w' F' t d v:=
 hr.mono (fun b hb=>h.frozen hi hb) h.sub t
theorem IK.mono{k v:Ty}(hc:∀ b,F b→w'.heap[b]? = w.heap[b]?)(hF:∀ b,F b→F' b):
  ∀ {es:List (k.den×v.den)} {ms:List MapEntry},IK w F k v es ms→IK w' F' k v es ms:=by
 intro es
 induction es with
 |nil=>exact fun h=>h
 |cons e es ih=>
  rintro ms ⟨me,ms',e1,⟨h1,h2⟩,h3⟩
  exact⟨me,ms',e1,⟨h1.mono hc hF,h2.mono hc hF⟩,ih h3⟩
end
end Go.Pev
end
section
namespace Go.Pev
open Go.RowKit
theorem Aw{w:World}{b:Nat}{o:Obj}(h:w.heap[b]? = some o):b<w.heap.size:=by
 rcases Afa b w.heap.size with h'|h'
 ·exact h'
 ·simp[Array.getElem?_eq_none h']at h
theorem Hdr.mono{w w':World}{K:RK}{n:Nat}{out:Option Nat}{b cap:Nat}(hb:b<w.heap.size→w'.heap[b]? = w.heap[b]?)(h:Hdr w K n out b cap):Hdr w' K n out b cap:=by
 cases K with
 |arr T=>obtain⟨vs,e1,e2⟩:=h;exact⟨vs,(hb (Aw e1)).trans e1,e2⟩
 |map j ks=>obtain⟨ms,clock,e1,e2⟩:=h;exact⟨ms,clock,(hb (Aw e1)).trans e1,e2⟩
theorem II.mono{w w':World}{K:RK}{b k:Nat}{u:Value}(hb:b<w.heap.size→w'.heap[b]? = w.heap[b]?)(h:II w K b k u):II w' K b k u:=by
 cases K with
 |arr T=>obtain⟨vs,e1,e2⟩:=h;exact⟨vs,(hb (Aw e1)).trans e1,e2⟩
 |map j ks=>obtain⟨ms,clock,e,e1,e2⟩:=h;exact⟨ms,clock,e,(hb (Aw e1)).trans e1,e2⟩
theorem Hdr.lt{w:World}{K:RK}{n:Nat}{out:Option Nat}{b cap:Nat}(h:Hdr w K n out b cap):b<w.heap.size:=by
 cases K with
 |arr T=>obtain⟨vs,e1,e2⟩:=h;exact Aw e1
 |map j ks=>obtain⟨ms,clock,e1,e2⟩:=h;exact Aw e1
theorem II.lt{w:World}{K:RK}{b k:Nat}{u:Value}(h:II w K b k u):b<w.heap.size:=by
 cases K with
 |arr T=>obtain⟨vs,e1,e2⟩:=h;exact Aw e1
 |map j ks=>obtain⟨ms,clock,e,e1,e2⟩:=h;exact Aw e1
theorem AXA.mono{w w':World}{F F':Nat→Prop}(hc:∀ b,F b→w'.heap[b]? = w.heap[b]?)(hF:∀ b,F b→F' b)(h:AXA w F):AXA w' F':=fun p hp=>by
 obtain⟨h1,h2⟩:=h p hp
 exact⟨hF _ h1,fun j n hn=>by have:=h2 j n hn;simp only[World.cell?]at this ⊢;rw[hc _ h1];exact this⟩
theorem ObI.mono{w w':World}{F F':Nat→Prop}{m m':Mp}{H H':List Ob}{o:Ob}{l:Option (Nat×Nat)}
  (hc:∀ b,F b→w'.heap[b]? = w.heap[b]?) (hF:∀ b,F b→F' b) (hcomp:CH H H' m m')
  (hb:o≠.free→o≠.dead→∀ b c,l=some (b,c)→b<w.heap.size→w'.heap[b]? = w.heap[b]?) (h:ObI w F m H o l):ObI w' F' m' H' o l:=by
 cases o with
 |free=>trivial
 |dead=>trivial
 |box cs=>
  obtain⟨b,c,vs,T,e1,e2,e3,e4⟩:=h
  exact⟨b,c,vs,T,e1,(hb (by simp) (by simp) b c e1 (Aw e2)).trans e2,Aa.mono hc hF hcomp cs e3,e4⟩
 |arr T t xs=>
  obtain⟨h0,h⟩:=h
  refine⟨h0,?_⟩
  cases l with
  |none=>exact h
  |some p=>
   obtain⟨b,cap⟩:=p
   obtain⟨vs,row,e1,e2,e3,e4,e5,e6⟩:=h
   exact⟨vs,row,(hb (by simp) (by simp) b cap rfl (Aw e1)).trans e1,e2,e3,e4,BK (fun x _ cs hx=>hx.mono hc hF t) e5,e6⟩
 |map k v es=>
  obtain⟨b,c,ms,clock,e1,e2,e3,e4⟩:=h
  exact⟨b,c,ms,clock,e1,(hb (by simp) (by simp) b c e1 (Aw e2)).trans e2,IK.mono hc hF e3,e4⟩
 |prs T tgt is=>
  cases l with
  |none=>exact h
  |some p=>
   obtain⟨b,cap⟩:=p
   obtain⟨vs,us,e1,e2,e3,e4,e5,e6,e7⟩:=h
   exact⟨vs,us,(hb (by simp) (by simp) b cap rfl (Aw e1)).trans e1,e2,e3,e4,Aa.mono hc hF hcomp _ e5,e6,e7⟩
 |rows T e t xs ver out=>
  obtain⟨h0,h⟩:=h
  refine⟨h0,?_⟩
  cases l with
  |none=>exact h
  |some p=>
   obtain⟨b,cap⟩:=p
   exact Hdr.mono (fun hlt=>hb (by simp) (by simp) b cap rfl hlt) h
theorem CW{H H':List Ob}{fz:List Bool}{i:Ix}(h:H'[i.id]? = H[i.id]?):owned H' fz i↔owned H fz i:=by
 cases i with
 |o i=>simp only[owned,Bq];rw[show H'[i]? = H[i]? from h]
 |r i k=>simp only[owned];rw[show H'[i]? = H[i]? from h]
theorem EP{H:List Ob}{fz:List Bool}{i k:Nat}{o:Ob}(h:H[i]? = some o)(p:BS o=true):¬ owned H fz (.r i k):=by
 simp only[owned]
 rw[h]
 cases o<;>first|exact id|cases p
theorem CT{H H':List Ob}{x:Ix}(h:H'[x.id]? = H[x.id]?):there H' x↔there H x:=by
 cases x with
 |o i=>simp only[there];rw[show H'[i]? = H[i]? from h]
 |r i k=>simp only[there];rw[show H'[i]? = H[i]? from h]
theorem AJJ{H:List Ob}{i k:Nat}{o:Ob}(h:H[i]? = some o)(p:BS o=true):¬ there H (.r i k):=by
 simp only[there]
 rw[h]
 cases o<;>first|exact id|cases p
theorem B0.plain{w:World}{F:Nat→Prop}{m:Mp}{H:List Ob}{i:Nat}{o:Ob}(h:H[i]? = some o)(p:BS o=true):B0 w F m H i:=by
 intro T e t xs ver out h1
 rw[h]at h1
 cases h1
 cases p
theorem B0.mono{w w':World}{F F':Nat→Prop}{m m':Mp}{H H':List Ob}{i:Nat}
  (hc:∀ b,F b→w'.heap[b]? = w.heap[b]?) (hF:∀ b,F b→F' b) (hcomp:CH H H' m m') (hH:H'[i]? = H[i]?) (hm:∀ x:Ix,x.id=i→m' x=m x)
  (hb:∀ x:Ix,x.id=i→there H x→∀ b c,m x=some (b,c)→b<w.heap.size→w'.heap[b]? = w.heap[b]?) (h:B0 w F m H i):B0 w' F' m' H' i:=by
 intro T e t xs ver out h1 k ys hk
 rw[hH]at h1
 obtain⟨h2,h3⟩:=h T e t xs ver out h1 k ys hk
 have hlt:k<List.length (α:=List t.den) xs:=by
  rcases Afa k (List.length (α:=List t.den) xs)with h'|h'
  ·exact h'
  ·rw[AfL h']at hk;cases hk
 rw[hm (.r i k) rfl]
 refine⟨ObI.mono hc hF hcomp (fun _ _ b c hl hlt'=>hb (.r i k) rfl (by simp only[there];rw[h1];exact hlt) b c hl hlt') h2,fun ho => ?_⟩
 obtain⟨b,cap,u,e1,e2,e3⟩:=h3 ho
 exact⟨b,cap,u,(hm (.o i) rfl).trans e1,e2.mono (hb (.o i) rfl ⟨_,h1,by simp,by simp⟩ b cap e1),e3⟩
theorem HI.neI{w:World}{F:Nat→Prop}{m:Mp}{H:List Ob}{fz:List Bool}(hi:HI w F m H fz){i:Nat}{j:Ix}{b c b' c':Nat}(ho:owned H fz j)
  (hj:m j=some (b',c')) {o:Ob} (hio:H[i]? = some o) (hal:o≠.free) (hal':o≠.dead) (hi':m i=some (b,c)) (hne:.o i≠j):b≠b':=by
 by_cases hoi:owned H fz i
 ·exact hi.sep i j b c b' c' hoi ho hne hi' hj
 ·cases o with
  |free=>exact absurd rfl hal
  |dead=>exact absurd rfl hal'
  |box cs=>exact absurd (by simp[owned,Bq,hio]) hoi
  |map k v es=>exact absurd (by simp[owned,Bq,hio]) hoi
  |prs T tgt is=>exact absurd (by simp[owned,Bq,hio]) hoi
  |rows T e t xs ver out=>
   have hf:fz.getD i false=true:=by
    cases hx:fz.getD i false with
    |true=>rfl
    |false=>exact absurd (by simp only[owned,Bq,hio];exact hx) hoi
   have h1:=hi.rfz i T e t xs ver out hio hf i rfl ⟨_,hio,by simp,by simp⟩ b c hi'
   rintro rfl
   exact hi.off j b c' ho hj h1
  |arr T t xs=>
   have hf:fz.getD i false=true:=by
    cases hx:fz.getD i false with
    |true=>rfl
    |false=>exact absurd (by simp only[owned,Bq,hio];exact hx) hoi
   have h1:=hi.froz i T t xs b c hio hf hi'
   rintro rfl
   exact hi.off j b c' ho hj h1
theorem AcI{i j:Nat}(h:i≠j):Ix.o i≠Ix.o j:=fun e=>h (Ix.o.inj e)
theorem HI.ne{w:World}{F:Nat→Prop}{m:Mp}{H:List Ob}{fz:List Bool}(hi:HI w F m H fz){i j:Nat}{b c b' c':Nat}(ho:owned H fz j)
  (hj:m j=some (b',c')) {o:Ob} (hio:H[i]? = some o) (hal:o≠.free) (hal':o≠.dead) (hi':m i=some (b,c)) (hne:i≠j):b≠b':=hi.neI ho hj hio hal hal' hi' (AcI hne)
theorem C0{H:List Ob}{fz:List Bool}{i:Ix}(h:owned H fz i):∃ o,H[i.id]? = some o∧o≠.free∧o≠.dead:=by
 cases i with
 |o i=>
  simp only[owned,Bq]at h
  split at h
  ·rename_i h1;exact⟨_,h1,by simp,by simp⟩
  ·rename_i h1;exact⟨_,h1,by simp,by simp⟩
  ·rename_i h1;exact⟨_,h1,by simp,by simp⟩
  ·rename_i h1;exact⟨_,h1,by simp,by simp⟩
  ·rename_i h1;exact⟨_,h1,by simp,by simp⟩
  ·exact h.elim
 |r i k=>
  simp only[owned]at h
  split at h
  ·rename_i h1;exact⟨_,h1,by simp,by simp⟩
  ·exact h.elim
theorem owned.there{H:List Ob}{fz:List Bool}{x:Ix}(h:owned H fz x):there H x:=by
 cases x with
 |o i=>exact C0 h
 |r i k=>
  simp only[owned,Pev.there]at *
  split at h
  ·exact h.1
  ·exact h.elim
theorem HI.neX{w:World}{F:Nat→Prop}{m:Mp}{H:List Ob}{fz:List Bool}(hi:HI w F m H fz){x j:Ix}{b c b' c':Nat}(ho:owned H fz j)
  (hj:m j=some (b',c')) (ht:there H x) (hx:m x=some (b,c)) (hne:x≠j):b≠b':=by
 cases x with
 |o i=>obtain⟨o,h1,h2,h3⟩:=ht;exact hi.neI ho hj h1 h2 h3 hx hne
 |r i k=>
  by_cases hox:owned H fz (.r i k)
  ·exact hi.sep _ _ b c b' c' hox ho hne hx hj
  ·have ht':=ht
   simp only[there,owned]at ht hox
   split at ht
   ·rename_i T e t xs ver out h1
    have hf:fz.getD i false=true:=by
     cases hz:fz.getD i false with
     |true=>rfl
     |false=>exact absurd (by rw[h1];exact⟨ht,hz⟩) hox
    have h2:=hi.rfz i T e t xs ver out h1 hf (.r i k) rfl ht' b c hx
    rintro rfl
    exact hi.off j b c' ho hj h2
   ·exact ht.elim
theorem ES{H:List Ob}{fz:List Bool}{i:Nat}(h:owned H fz i):∃ o,H[i]? = some o∧o≠.free∧o≠.dead:=C0 h
theorem ObI.lt{w:World}{F:Nat→Prop}{m:Mp}{H:List Ob}{o:Ob}{b c:Nat}(h:ObI w F m H o (some (b,c)))(h1:o≠.free)(h2:o≠.dead):b<w.heap.size:=by
 cases o with
 |free=>exact absurd rfl h1
 |dead=>exact absurd rfl h2
 |box cs=>obtain⟨b,c,vs,T,e1,e2,_⟩:=h;cases e1;exact Aw e2
 |map k v es=>obtain⟨b,c,vs,T,e1,e2,_⟩:=h;cases e1;exact Aw e2
 |arr T t xs=>obtain⟨_,vs,row,e1,_⟩:=h;exact Aw e1
 |prs T tgt is=>obtain⟨vs,us,e1,_⟩:=h;exact Aw e1
 |rows T e t xs ver out=>obtain⟨_,h⟩:=h;exact Hdr.lt h
theorem HI.ALc{w:World}{F:Nat→Prop}{m:Mp}{H:List Ob}{fz:List Bool}(hi:HI w F m H fz){i:Ix}{b c:Nat}(h:there H i)(hm:m i=some (b,c)):b<w.heap.size:=by
 cases i with
 |o i=>
  obtain⟨o,ho,h1,h2⟩:=h
  have:=hi.obj i o ho
  rw[hm]at this
  exact this.lt h1 h2
 |r i k=>
  simp only[there]at h
  split at h
  ·rename_i T e t xs ver out h3
   obtain⟨ys,hys⟩:∃ ys:List t.den,xs[k]? = some ys:=⟨_,Aev h⟩
   have:=((hi.row i) T e t xs ver out h3 k ys hys).1
   rw[hm]at this
   exact this.lt (by simp) (by simp)
  ·exact h.elim
theorem HI.Hg{w:World}{F:Nat→Prop}{m:Mp}{H:List Ob}{fz:List Bool}(hi:HI w F m H fz){i:Ix}{b c:Nat}(h:owned H fz i)(hm:m i=some (b,c)):b<w.heap.size:=hi.ALc h.there hm
def Ap(w:World)(F:Nat→Prop)(m:Mp)(H:List Ob)(fz:List Bool)(w':World)(F':Nat→Prop)(m':Mp)(H':List Ob)(fz':List Bool):Prop:=
 Ext w F m H fz w' F' m' H' fz'∧HI w' F' m' H' fz'
theorem Ap.trans{w w1 w2:World}{F F1 F2:Nat→Prop}{m m1 m2:Mp}{H H1 H2:List Ob}{fz fz1 fz2:List Bool}
  (h:Ap w F m H fz w1 F1 m1 H1 fz1) (k:Ap w1 F1 m1 H1 fz1 w2 F2 m2 H2 fz2):Ap w F m H fz w2 F2 m2 H2 fz2:=⟨h.1.trans k.1,k.2⟩
section
variable {w w':World} {F:Nat→Prop} {m:Mp} {H:List Ob} {fz:List Bool}
theorem Ap.refl(hi:HI w F m H fz):Ap w F m H fz w F m H fz:=⟨Ext.refl ..,hi⟩
theorem Ap.grow(hi:HI w F m H fz)(h1:w'.os=w.os)(h2:w'.tape=w.tape)(h3:w'.output=w.output)(hsz:w.heap.size≤w'.heap.size)(hb:∀ b,b<w.heap.size→w'.heap[b]? = w.heap[b]?):
  Ap w F m H fz w' F m H fz:=by
 refine⟨⟨h1,h2,h3,hsz,fun b h _=>hb b h,fun _ h=>h,fun _ h=>.inl h,fun i b c h1 h2=>.inl ⟨i,c,h1,h2⟩,CH.refl H m⟩,?_,?_,hi.rfz,hi.sep,hi.off,hi.froz,fun b h=>Af6 (hi.lt b h) hsz,hi.glo.mono (fun b hF=>hb b (hi.lt b hF)) (fun _ h=>h),hi.len⟩
 ·exact fun id o ho=>ObI.mono (fun b hF=>hb b (hi.lt b hF)) (fun _ h=>h) (CH.refl H m) (fun _ _ b c _ hlt=>hb b hlt) (hi.obj id o ho)
 ·exact fun i=>B0.mono (fun b hF=>hb b (hi.lt b hF)) (fun _ h=>h) (CH.refl H m) rfl (fun _ _=>rfl) (fun _ _ _ b c _ hlt=>hb b hlt) (hi.row i)
theorem Ap.drew(hi:HI w F m H fz):Ap w F m H fz w.drew F m H fz:=Ap.grow hi rfl rfl rfl (Aez _) fun _ _=>rfl
def upd(m:Mp)(i:Nat)(l:Option (Nat×Nat)):Mp:=fun j=>if j = .o i then l else m j
theorem Aq(m:Mp)(i:Nat)(l:Option (Nat×Nat)):upd m i l i=l:=by simp[upd]
theorem D5{m:Mp}{i:Nat}{j:Ix}{l:Option (Nat×Nat)}(h:j≠.o i):upd m i l j=m j:=by simp[upd,h]
theorem E6{m:Mp}{i j:Nat}{l:Option (Nat×Nat)}(h:j≠i):upd m i l j=m j:=D5 (AcI h)
def Ni(m:Mp)(i:Nat)(l:Option (Nat×Nat))(f:Nat→Option (Nat×Nat)):Mp
 |.o j=>if j=i then l else m (.o j)
 |.r j k=>if j=i then f k else m (.r j k)
theorem KC{m:Mp}{i:Nat}{l:Option (Nat×Nat)}{f:Nat→Option (Nat×Nat)}:Ni m i l f (.o i)=l:=by simp[Ni]
theorem AE5{m:Mp}{i k:Nat}{l:Option (Nat×Nat)}{f:Nat→Option (Nat×Nat)}:Ni m i l f (.r i k)=f k:=by simp[Ni]
theorem Gi{m:Mp}{i:Nat}{l:Option (Nat×Nat)}{f:Nat→Option (Nat×Nat)}{x:Ix}(h:x.id≠i):Ni m i l f x=m x:=by
 cases x with
 |o j=>have h:j≠i:=h;simp[Ni,h]
 |r j k=>have h:j≠i:=h;simp[Ni,h]
theorem XQ{m:Mp}{i j:Nat}{l:Option (Nat×Nat)}(h:j≠i)(x:Ix)(hx:x.id=j):upd m i l x=m x:=D5 (by rintro rfl;exact h hx.symm)
theorem AZ{H:List Ob}{i j:Nat}{o:Ob}(h:j≠i):(H.set i o)[j]? = H[j]? := by rw[Afb (AfV h)]
theorem BL{slot:Nat}(h:At H fz slot=true):H[slot]? = some .free∧fz.getD slot false=false:=by
 unfold At at h
 split at h
 ·rename_i h1;exact⟨h1,by simpa using h⟩
 ·cases h
theorem Al{H:List Ob}{i:Nat}{o:Ob}(h:H[i]? = some o):i<H.length:=by
 rcases Afa i H.length with h'|h'
 ·exact h'
 ·rw[AfL h']at h;cases h
theorem Au{H:List Ob}{i:Nat}{o:Ob}(h:i<H.length):(H.set i o)[i]? = some o:=by simp[h]
def alive:Ob→Prop
 |.free=>False
 |.dead=>False
 |_=>True
theorem Ap.new(hi:HI w F m H fz){slot:Nat}(hs:At H fz slot=true){ob:Ob}(hal:alive ob)(l:Option (Nat×Nat))
  (h1:w'.os=w.os) (h2:w'.tape=w.tape) (h3:w'.output=w.output) (hsz:w.heap.size≤w'.heap.size) (hb:∀ b,b<w.heap.size→w'.heap[b]? = w.heap[b]?)
  (hl:∀ b c,l=some (b,c)→w.heap.size≤b)
  (ho:(∀ {a:AV} {v:Value},Rep w F m H a v→Rep w' F (upd m slot l) (H.set slot ob) a v)→ObI w' F (upd m slot l) (H.set slot ob) ob l) (hpl:BS ob=true:=by rfl) :
  Ap w F m H fz w' F (upd m slot l) (H.set slot ob) fz:=by
 obtain⟨hs1,hs2⟩:=BL hs
 have hlt:=Al hs1
 have hcell:∀ b,F b→w'.heap[b]? = w.heap[b]? := fun b hF=>hb b (hi.lt b hF)
 have hcomp:CH H (H.set slot ob) m (upd m slot l):=by
  intro i o hio hf
  have hne:i≠slot:=by rintro rfl;rw[hs1]at hio;cases hio;exact hf rfl
  rcases CH.refl H m i o hio hf with h|⟨hd,o',h4,h5,_⟩
  ·exact .inl (by rw[AZ hne];exact h)
  ·exact .inr ⟨hd,o',by rw[AZ hne];exact h4,h5,E6 hne,fun _ _ k=>D5 (by simp)⟩
 have hown:∀ i:Ix,i≠.o slot→(owned (H.set slot ob) fz i↔owned H fz i):=fun i hne=>by
  by_cases hid:i.id=slot
  ·cases i with
   |o i=>exact absurd (Af5 Ix.o hid) hne
   |r i k=>
    have hid:i=slot:=hid
    subst hid
    exact⟨fun h=>absurd h (EP (Au hlt) hpl),fun h=>absurd h (EP hs1 rfl)⟩
  ·exact CW (AZ hid)
 refine⟨⟨h1,h2,h3,hsz,fun b h _=>hb b h,fun _ h=>h,fun _ h=>.inl h,?_,hcomp⟩,⟨?_,?_,?_,?_,?_,?_,fun b h=>Af6 (hi.lt b h) hsz,hi.glo.mono hcell (fun _ h=>h),by simpa using hi.len⟩⟩
 ·intro i b c ho' hm
  by_cases hne:i = .o slot
  ·subst hne;rw[Aq]at hm;exact .inr (hl b c hm)
  ·rw[D5 hne]at hm;exact .inl ⟨i,c,(hown i hne).1 ho',hm⟩
 ·intro id o hio
  by_cases hne:id=slot
  ·subst hne
   rw[Au hlt]at hio;cases hio
   rw[Aq]
   exact ho fun h=>Rep.mono hcell (fun _ h=>h) hcomp _ h
  ·rw[AZ hne]at hio
   rw[E6 hne]
   exact ObI.mono hcell (fun _ h=>h) hcomp (fun _ _ b c _ hlt=>hb b hlt) (hi.obj id o hio)
 ·intro i
  by_cases hne:i=slot
  ·subst hne;exact B0.plain (Au hlt) hpl
  ·exact B0.mono hcell (fun _ h=>h) hcomp (AZ hne) (fun x hx=>XQ hne x hx) (fun _ _ _ b c _ hlt=>hb b hlt) (hi.row i)
 ·intro i T e t xs ver out hio hf x hx ht b c hm
  by_cases hne:i=slot
  ·subst hne;rw[Au hlt]at hio;cases hio;cases hpl
  ·rw[XQ hne x hx]at hm
   rw[AZ hne]at hio
   exact hi.rfz i T e t xs ver out hio hf x hx ((CT (by rw[hx];exact AZ hne)).1 ht) b c hm
 ·intro i j b c b' c' hoi hoj hij hmi hmj
  by_cases hi1:i = .o slot
  ·subst hi1
   have hj1:=AfV hij
   rw[Aq]at hmi
   rw[D5 hj1]at hmj
   have:=hi.Hg ((hown j hj1).1 hoj) hmj
   have:=hl b c hmi
   omega
  ·rw[D5 hi1]at hmi
   by_cases hj1:j = .o slot
   ·subst hj1
    rw[Aq]at hmj
    have:=hi.Hg ((hown i hi1).1 hoi) hmi
    have:=hl b' c' hmj
    omega
   ·rw[D5 hj1]at hmj
    exact hi.sep i j b c b' c' ((hown i hi1).1 hoi) ((hown j hj1).1 hoj) hij hmi hmj
 ·intro i b c hoi hmi hF
  by_cases hi1:i = .o slot
  ·subst hi1;rw[Aq]at hmi
   have:=hl b c hmi
   have:=hi.lt b hF
   omega
  ·rw[D5 hi1]at hmi
   exact hi.off i b c ((hown i hi1).1 hoi) hmi hF
 ·intro i T t xs b c hio hf hmi
  by_cases hi1:i=slot
  ·subst hi1;rw[hs2]at hf;cases hf
  ·rw[E6 hi1]at hmi;rw[AZ hi1]at hio
   exact hi.froz i T t xs b c hio hf hmi
theorem Ap.set(hi:HI w F m H fz){j b c:Nat}(hoj:owned H fz j)(hmj:m j=some (b,c)){o o':Ob}(hj:H[j]? = some o)(hss:sameShape o o')
  (h1:w'.os=w.os) (h2:w'.tape=w.tape) (h3:w'.output=w.output) (hsz:w'.heap.size=w.heap.size) (hb:∀ k,k≠b→w'.heap[k]? = w.heap[k]?)
  (ho:(∀ {a:AV} {v:Value},Rep w F m H a v→Rep w' F m (H.set j o') a v)→ObI w' F m (H.set j o') o' (m j)) (hpl:BS o'=true:=by rfl) :
  Ap w F m H fz w' F m (H.set j o') fz:=by
 have hlt:=Al hj
 have hcell:∀ b,F b→w'.heap[b]? = w.heap[b]? := fun k ha=>hb k (by rintro e;exact hi.off j b c hoj hmj (e▸ha))
 have hcomp:CH H (H.set j o') m m:=by
  intro i x hix hf
  by_cases hne:i=j
  ·subst hne
   rw[hj]at hix;cases hix
   exact .inr ⟨by rintro rfl;simp[sameShape]at hss,o',Au hlt,hss,rfl,fun _ _ _=>rfl⟩
  ·rcases CH.refl H m i x hix hf with h|⟨hd,x',h4,h5,_⟩
   ·exact .inl (by rw[AZ hne];exact h)
   ·exact .inr ⟨hd,x',by rw[AZ hne];exact h4,h5,rfl,fun _ _ _=>rfl⟩
 have hown:∀ i:Ix,owned (H.set j o') fz i→owned H fz i:=fun i hoi=>by
  by_cases hid:i.id=j
  ·cases i with
   |o i=>have hid:i=j:=hid;subst hid;exact hoj
   |r i k=>have hid:i=j:=hid;subst hid;exact absurd hoi (EP (Au hlt) hpl)
  ·exact(CW (AZ hid)).1 hoi
 refine⟨⟨h1,h2,h3,Ag2 hsz.symm,fun k _ hk=>hb k ?_,fun _ h=>h,fun _ h=>.inl h,fun i b c ho' hm=>.inl ⟨i,c,hown i ho',hm⟩,hcomp⟩,⟨?_,?_,?_,?_,?_,?_,fun b h=>by rw[hsz];exact hi.lt b h,hi.glo.mono hcell (fun _ h=>h),by simpa using hi.len⟩⟩
 ·rintro rfl
  exact hk j c hoj hmj
 ·intro id x hix
  by_cases hne:id=j
  ·subst hne
   rw[Au hlt]at hix;cases hix
   exact ho fun h=>Rep.mono hcell (fun _ h=>h) hcomp _ h
  ·rw[AZ hne]at hix
   exact ObI.mono hcell (fun _ h=>h) hcomp (fun n1 n2 b' c' hm _=>hb b' (hi.ne hoj hmj hix n1 n2 hm hne)) (hi.obj id x hix)
 ·intro i
  by_cases hne:i=j
  ·subst hne;exact B0.plain (Au hlt) hpl
  ·exact B0.mono hcell (fun _ h=>h) hcomp (AZ hne) (fun _ _=>rfl) (fun x hx hox b' c' hm _=>hb b' (hi.neX hoj hmj hox hm (by rintro rfl;exact hne hx.symm))) (hi.row i)
 ·intro i T e t xs ver out hio hf x hx ht b' c' hm
  by_cases hne:i=j
  ·subst hne;rw[Au hlt]at hio;cases hio;cases hpl
  ·rw[AZ hne]at hio
   exact hi.rfz i T e t xs ver out hio hf x hx ((CT (by rw[hx];exact AZ hne)).1 ht) b' c' hm
 ·exact fun i k b c b' c' hoi hok=>hi.sep i k b c b' c' (hown i hoi) (hown k hok)
 ·exact fun i b c hoi=>hi.off i b c (hown i hoi)
 ·intro i T t xs b' c' hio hf hmi
  by_cases hne:i=j
  ·subst hne
   rw[Au hlt]at hio;cases hio
   cases o<;>simp only[sameShape]at hss
   simp only[owned,Bq]at hoj;rw[hj]at hoj
   simp only at hoj
   rw[hoj]at hf;cases hf
  ·rw[AZ hne]at hio
   exact hi.froz i T t xs b' c' hio hf hmi
theorem Ap.move(hi:HI w F m H fz){j b c slot:Nat}(hoj:owned H fz j)(hmj:m j=some (b,c))(hs:At H fz slot=true){ob:Ob}(hal:alive ob){b' c':Nat}
  (hb':b'=b∨w.heap.size≤b')
  (h1:w'.os=w.os) (h2:w'.tape=w.tape) (h3:w'.output=w.output) (hsz:w.heap.size≤w'.heap.size) (hb:∀ k,k<w.heap.size→k≠b→w'.heap[k]? = w.heap[k]?)
  (ho:(∀ {a:AV} {v:Value},Rep w F m H a v→Rep w' F (upd m slot (some (b',c'))) ((H.set j .dead).set slot ob) a v)→ObI w' F (upd m slot (some (b',c'))) ((H.set j .dead).set slot ob) ob (some (b',c'))) (hpl:BS ob=true:=by rfl) :
  Ap w F m H fz w' F (upd m slot (some (b',c'))) ((H.set j .dead).set slot ob) fz:=by
 obtain⟨hs1,hs2⟩:=BL hs
 obtain⟨oj,hj,hjf,hjd⟩:=ES hoj
 have hjs:j≠slot:=by rintro rfl;rw[hs1]at hj;cases hj;exact hjf rfl
 have hltj:=Al hj
 have hlts:=Al hs1
 have hgs:((H.set j .dead).set slot ob)[slot]? = some ob:=Au (by simpa using hlts)
 have hgj:((H.set j .dead).set slot ob)[j]? = some .dead:=by rw[AZ hjs,Au hltj]
 have hgo:∀ i,i≠j→i≠slot→((H.set j .dead).set slot ob)[i]? = H[i]? := fun i h4 h5=>by rw[AZ h5,AZ h4]
 have hbF:¬ F b:=hi.off j b c hoj hmj
 have hcell:∀ b,F b→w'.heap[b]? = w.heap[b]? := fun k ha=>hb k (hi.lt _ ha) (by rintro e;exact hbF (e▸ha))
 have hcomp:CH H ((H.set j .dead).set slot ob) m (upd m slot (some (b',c'))):=by
  intro i x hix hf
  have hne:i≠slot:=by rintro rfl;rw[hs1]at hix;cases hix;exact hf rfl
  by_cases hij:i=j
  ·subst hij;exact .inl hgj
  ·rcases CH.refl H m i x hix hf with h|⟨hd,x',h4,h5,_⟩
   ·exact .inl (by rw[hgo i hij hne];exact h)
   ·exact .inr ⟨hd,x',by rw[hgo i hij hne];exact h4,h5,E6 hne,fun _ _ k=>D5 (by simp)⟩
 have hown:∀ i:Ix,i≠.o slot→owned ((H.set j .dead).set slot ob) fz i→owned H fz i∧i≠.o j:=fun i hne hoi=>by
  by_cases hid:i.id=slot
  ·cases i with
   |o i=>exact absurd (Af5 Ix.o hid) hne
   |r i k=>have hid:i=slot:=hid;subst hid;exact absurd hoi (EP hgs hpl)
  ·by_cases hij:i.id=j
   ·obtain⟨o,ho,_,hd⟩:=C0 hoi
    rw[hij,hgj]at ho;cases ho;exact absurd rfl hd
   ·exact⟨(CW (hgo i.id hij hid)).1 hoi,by rintro rfl;exact hij rfl⟩
 refine⟨⟨h1,h2,h3,hsz,fun k hk hn=>hb k hk ?_,fun _ h=>h,fun _ h=>.inl h,?_,hcomp⟩,⟨?_,?_,?_,?_,?_,?_,fun b h=>Af6 (hi.lt b h) hsz,hi.glo.mono hcell (fun _ h=>h),by simpa using hi.len⟩⟩
 ·rintro rfl;exact hn j c hoj hmj
 ·intro i b2 c2 ho' hm
  by_cases hne:i = .o slot
  ·subst hne;rw[Aq]at hm;cases hm
   rcases hb' with h|h
   ·exact .inl ⟨j,c,hoj,by rw[h];exact hmj⟩
   ·exact .inr h
  ·rw[D5 hne]at hm;exact .inl ⟨i,c2,(hown i hne ho').1,hm⟩
 ·intro id x hix
  by_cases hne:id=slot
  ·subst hne
   rw[hgs]at hix;cases hix
   rw[Aq]
   exact ho fun h=>Rep.mono hcell (fun _ h=>h) hcomp _ h
  ·rw[E6 hne]
   by_cases hij:id=j
   ·subst hij;rw[hgj]at hix;cases hix;trivial
   ·rw[hgo id hij hne]at hix
    exact ObI.mono hcell (fun _ h=>h) hcomp (fun n1 n2 b2 c2 hm hlt=>hb b2 hlt (hi.ne hoj hmj hix n1 n2 hm hij)) (hi.obj id x hix)
 ·intro i
  by_cases hne:i=slot
  ·subst hne;exact B0.plain hgs hpl
  ·by_cases hij:i=j
   ·subst hij;exact B0.plain hgj rfl
   ·exact B0.mono hcell (fun _ h=>h) hcomp (hgo i hij hne) (fun x hx=>XQ hne x hx) (fun x hx hox b2 c2 hm hlt=>hb b2 hlt (hi.neX hoj hmj hox hm (by rintro rfl;exact hij hx.symm))) (hi.row i)
 ·intro i T e t xs ver out hio hf x hx ht b2 c2 hm
  by_cases hne:i=slot
  ·subst hne;rw[hgs]at hio;cases hio;cases hpl
  ·by_cases hij:i=j
   ·subst hij;rw[hgj]at hio;cases hio
   ·rw[hgo i hij hne]at hio
    rw[XQ hne x hx]at hm
    exact hi.rfz i T e t xs ver out hio hf x hx ((CT (by rw[hx];exact hgo i hij hne)).1 ht) b2 c2 hm
 ·intro i k b1 c1 b2 c2 hoi hok hik hmi hmk
  by_cases hi1:i = .o slot
  ·subst hi1
   have hk1:=AfV hik
   rw[Aq]at hmi;cases hmi
   rw[D5 hk1]at hmk
   obtain⟨hok,hkj⟩:=hown k hk1 hok
   rcases hb' with rfl|h
   ·exact(hi.sep k j b2 c2 b' c hok hoj hkj hmk hmj).symm
   ·have:=hi.Hg hok hmk;omega
  ·rw[D5 hi1]at hmi
   obtain⟨hoi',hij⟩:=hown i hi1 hoi
   by_cases hk1:k = .o slot
   ·subst hk1
    rw[Aq]at hmk;cases hmk
    rcases hb' with rfl|h
    ·exact hi.sep i j b1 c1 b' c hoi' hoj hij hmi hmj
    ·have:=hi.Hg hoi' hmi;omega
   ·rw[D5 hk1]at hmk
    exact hi.sep i k b1 c1 b2 c2 hoi' (hown k hk1 hok).1 hik hmi hmk
 ·intro i b1 c1 hoi hmi hF
  by_cases hi1:i = .o slot
  ·subst hi1;rw[Aq]at hmi;cases hmi
   rcases hb' with rfl|h
   ·exact hbF hF
   ·have:=hi.lt _ hF;omega
  ·rw[D5 hi1]at hmi
   exact hi.off i b1 c1 (hown i hi1 hoi).1 hmi hF
 ·intro i T t xs b1 c1 hio hf hmi
  by_cases hi1:i=slot
  ·subst hi1;rw[hs2]at hf;cases hf
  ·rw[E6 hi1]at hmi
   by_cases hij:i=j
   ·subst hij;rw[hgj]at hio;cases hio
   ·rw[hgo i hij hi1]at hio
    exact hi.froz i T t xs b1 c1 hio hf hmi
def ATQ(H:List Ob)(x:Ix):Prop:=there H x∧((∃ T t xs,H[x.id]? = some (.arr T t xs))∨∃ T e t xs ver out,H[x.id]? = some (.rows T e t xs ver out))
def C4(F:Nat→Prop)(m:Mp)(H:List Ob)(ids:List Nat)(b:Nat):Prop:=
 F b∨∃ x:Ix,x.id∈ids∧ATQ H x∧∃ c,m x=some (b,c)
theorem Cv(ids:List Nat):∀ (fz:List Bool),(Ag ids fz).length=fz.length:=by
 induction ids with
 |nil=>intro fz;rfl
 |cons a ids ih=>intro fz;rw[Ag,ih,AhG]
theorem Av(ids:List Nat):∀ (fz:List Bool) (i:Nat),(Ag ids fz).getD i false=(fz.getD i false||(decide (i∈ids)&&decide (i<fz.length))):=by
 induction ids with
 |nil=>intro fz i;simp[Ag]
 |cons a ids ih=>
  intro fz i
  rw[Ag,ih,AhG]
  simp only[Aes]
  by_cases hia:i=a
  ·subst hia
   by_cases hl:i<fz.length
   ·simp[hl]
   ·simp[hl]
  ·rw[Afb (AfV hia)]
   simp[hia]
theorem Ap.freeze(hi:HI w F m H fz)(ids:List Nat):Ap w F m H fz w (C4 F m H ids) m H (Ag ids fz):=by
 have hlen:∀ {i:Nat} {o:Ob},H[i]? = some o→i<fz.length:=fun h=>Af6 (Al h) (Ag2 hi.len)
 have unf:∀ {i:Nat},(Ag ids fz).getD i false=false→i<fz.length→fz.getD i false=false∧i∉ids:=by
  intro i h hl
  rw[Av]at h
  simp only[Agt,Bool.and_eq_false_iff,Aff]at h
  exact⟨h.1,h.2.elim id fun h'=>absurd hl h'⟩
 have hown:∀ x:Ix,owned H (Ag ids fz) x→owned H fz x∧(x.id∉ids∨¬ ATQ H x):=by
  intro x ho
  cases x with
  |r i k=>
   simp only[owned]at ho ⊢
   split at ho
   ·rename_i T e t xs ver out h1
    obtain⟨h2,h3⟩:=unf ho.2 (hlen h1)
    exact⟨⟨ho.1,h2⟩,.inl h3⟩
   ·exact ho.elim
  |o i=>
   simp only[owned,Bq]at ho ⊢
   cases hio:H[i]? with
   |none=>rw[hio]at ho;exact ho.elim
   |some o=>
    rw[hio]at ho
    have no:((∃ T t xs,o=Ob.arr T t xs)∨∃ T e t xs ver out,o=Ob.rows T e t xs ver out)∨¬ ATQ H (.o i):=by
     by_cases h:(∃ T t xs,o=Ob.arr T t xs)∨∃ T e t xs ver out,o=Ob.rows T e t xs ver out
     ·exact .inl h
     ·refine .inr fun ⟨_,h2⟩=>h ?_
      rcases h2 with⟨T,t,xs,h2⟩|⟨T,e,t,xs,ver,out,h2⟩
      ·have h2:H[i]? = some (.arr T t xs):=h2
       rw[hio]at h2;exact .inl ⟨T,t,xs,Afs h2⟩
      ·have h2:H[i]? = some (.rows T e t xs ver out):=h2
       rw[hio]at h2;exact .inr ⟨T,e,t,xs,ver,out,Afs h2⟩
    cases o with
    |free=>exact ho.elim
    |dead=>exact ho.elim
    |box cs=>exact⟨trivial,.inr (no.resolve_left (by simp))⟩
    |map k v es=>exact⟨trivial,.inr (no.resolve_left (by simp))⟩
    |prs T tgt is=>exact⟨trivial,.inr (no.resolve_left (by simp))⟩
    |rows T e t xs ver out=>obtain⟨h2,h3⟩:=unf ho (hlen hio);exact⟨h2,.inl h3⟩
    |arr T t xs=>obtain⟨h2,h3⟩:=unf ho (hlen hio);exact⟨h2,.inl h3⟩
 have hsub:∀ b,F b→C4 F m H ids b:=fun b h=>.inl h
 have hownS:∀ x:Ix,ATQ H x→owned H fz x∨(∀ b c,m x=some (b,c)→F b):=by
  rintro x ⟨ht,⟨T,t,xs,h⟩|⟨T,e,t,xs,ver,out,h⟩⟩
  ·cases x with
   |r i k=>exact absurd ht (AJJ h rfl)
   |o i=>
    have h:H[i]? = some (.arr T t xs):=h
    cases hx:fz.getD i false with
    |true=>exact .inr fun b c hm=>hi.froz i T t xs b c h hx hm
    |false=>exact .inl (by simp only[owned,Bq];rw[h];exact hx)
  ·cases hx:fz.getD x.id false with
   |true=>exact .inr fun b c hm=>hi.rfz x.id T e t xs ver out h hx x rfl ht b c hm
   |false=>
    left
    cases x with
    |o i=>simp only[owned,Bq];rw[show H[i]? = _ from h];exact hx
    |r i k=>
     simp only[owned,there]at ht ⊢
     rw[show H[i]? = _ from h]at ht ⊢
     exact⟨ht,hx⟩
 refine⟨⟨rfl,rfl,rfl,Aez _,fun _ _ _=>rfl,hsub,?_,fun i b c h1 h2=>.inl ⟨i,c,(hown i h1).1,h2⟩,CH.refl H m⟩,⟨?_,?_,?_,?_,?_,?_,?_,hi.glo.mono (fun _ _=>rfl) hsub,by rw[Cv];exact hi.len⟩⟩
 ·rintro b (h|⟨x,hx,h4,c,h5⟩)
  ·exact .inl h
  ·rcases hownS x h4 with h|h
   ·exact .inr (.inl ⟨x,c,h,h5⟩)
   ·exact .inl (h b c h5)
 ·exact fun id o ho=>ObI.mono (fun _ _=>rfl) hsub (CH.refl H m) (fun _ _ _ _ _ _=>rfl) (hi.obj id o ho)
 ·exact fun i=>B0.mono (fun _ _=>rfl) hsub (CH.refl H m) rfl (fun _ _=>rfl) (fun _ _ _ _ _ _ _=>rfl) (hi.row i)
 ·intro i T e t xs ver out hio hf x hx ht b c hm
  rw[Av]at hf
  simp only[Afw,Aet,Aer]at hf
  rcases hf with hf|⟨hf,_⟩
  ·exact .inl (hi.rfz i T e t xs ver out hio hf x hx ht b c hm)
  ·exact .inr ⟨x,by rw[hx];exact hf,⟨ht,.inr ⟨T,e,t,xs,ver,out,by rw[hx];exact hio⟩⟩,c,hm⟩
 ·exact fun i j b c b' c' h1 h2=>hi.sep i j b c b' c' (hown i h1).1 (hown j h2).1
 ·rintro i b c h1 h2 (hF|⟨x,hx,h4,c',h5⟩)
  ·exact hi.off i b c (hown i h1).1 h2 hF
  ·have hki:x≠i:=by
    rintro rfl
    rcases(hown x h1).2 with h7|h7
    ·exact h7 hx
    ·exact h7 h4
   exact hi.neX (hown i h1).1 h2 h4.1 h5 hki rfl
 ·intro i T t xs b c hio hf hmi
  rw[Av]at hf
  simp only[Afw,Aet,Aer]at hf
  rcases hf with hf|⟨hf,_⟩
  ·exact .inl (hi.froz i T t xs b c hio hf hmi)
  ·exact .inr ⟨.o i,hf,⟨⟨_,hio,by simp,by simp⟩,.inl ⟨T,t,xs,hio⟩⟩,c,hmi⟩
 ·rintro b (h|⟨x,_,h4,c,h5⟩)
  ·exact hi.lt b h
  ·exact hi.ALc h4.1 h5
end
end Go.Pev
end
section
namespace Go.Pev
open Go.RowKit
theorem HB(a:Addr)(n:Nat):(a.add n).block=a.block:=by unfold Addr.add;split<;>rfl
theorem add_add(a:Addr)(i j:Nat):(a.add i).add j=a.add (i+j):=by
 unfold Addr.add
 by_cases hi:i=0<;>by_cases hj:j=0<;>simp[hi,hj,Ahu]
theorem B8(b o n:Nat):(⟨b,o,none⟩:Addr).add n=⟨b,o+n,none⟩:=by unfold Addr.add;split<;>simp_all
theorem Cr{t t':Ty}{d:t.den}{x:t'.den}(h:cast d=some x):∃ e:t=t',e▸d=x:=by
 unfold cast at h
 split at h
 ·rename_i e;exact⟨e,by simpa using h⟩
 ·cases h
theorem CM{t t':Ty}{d:List t.den}{x:List t'.den}(h:Lb d=some x):∃ e:t=t',e▸d=x:=by
 unfold Lb at h
 split at h
 ·rename_i e;exact⟨e,by simpa using h⟩
 ·cases h
theorem Df{α:Type}{R:α→List Value→Prop}{k:Nat}(hk:∀ x cs,R x cs→cs.length=k):∀ {xs:List α} {cs:List Value} (n:Nat),rows R xs cs→rows R (xs.take n) (cs.take (n*k)):=by
 intro xs
 induction xs with
 |nil=>rintro cs n rfl;simp[rows]
 |cons x xs ih=>
  rintro cs n ⟨c1,c2,rfl,h1,h2⟩
  cases n with
  |zero=>simp[rows]
  |succ n=>
   have hl:=hk _ _ h1
   refine⟨c1,c2.take (n*k),?_,h1,ih n h2⟩
   rw[Agp,Afp,AgV,Afg (by omega)]
   congr 2
   omega
theorem G5{α:Type}{R:α→List Value→Prop}{k:Nat}(hk:∀ x cs,R x cs→cs.length=k):∀ {xs:List α} {cs:List Value} (n:Nat),rows R xs cs→rows R (xs.drop n) (cs.drop (n*k)):=by
 intro xs
 induction xs with
 |nil=>rintro cs n rfl;simp[rows]
 |cons x xs ih=>
  rintro cs n ⟨c1,c2,rfl,h1,h2⟩
  cases n with
  |zero=>simp only[Agq,AhP];exact⟨c1,c2,rfl,h1,h2⟩
  |succ n=>
   have hl:=hk _ _ h1
   have e:(c1++c2).drop ((n+1)*k)=c2.drop (n*k):=by
    rw[Afp,AgV,Ahw,Af0 (show c1.length≤n*k+k by omega),AfQ]
    congr 1;omega
   rw[e,List.drop_succ_cons]
   exact ih n h2
theorem Ji{α:Type}{R:α→List Value→Prop}{k:Nat}(hk:∀ x cs,R x cs→cs.length=k){xs:List α}{cs:List Value}(h:rows R xs cs){i:Nat}{x:α}(hx:xs[i]? = some x):
  R x ((cs.drop (i*k)).take k):=by
 have h1:=Df hk 1 (G5 hk i h)
 rw[AgV]at h1
 have h2:(xs.drop i).take 1=[x]:=by
  have hlt:i<xs.length:=by
   rcases Afa i xs.length with h'|h'
   ·exact h'
   ·rw[AfL h']at hx;cases hx
  rw[Afh hlt]
  rw[Aev hlt]at hx
  injection hx with hx
  simp[hx]
 rw[h2]at h1
 obtain⟨c1,c2,e,h3,rfl⟩:=h1
 rw[Afx]at e
 rw[e];exact h3
theorem HV{α:Type}{R:α→List Value→Prop}{xs ys:List α}{cs ds:List Value}(h:rows R xs cs)(h':rows R ys ds):rows R (xs++ys) (cs++ds):=by
 induction xs generalizing cs with
 |nil=>cases h;simpa using h'
 |cons x xs ih=>
  obtain⟨c1,c2,rfl,h1,h2⟩:=h
  exact⟨c1,c2++ds,by simp,h1,ih h2⟩
theorem AJt{α:Type}{R:α→List Value→Prop}{k:Nat}(hk:∀ x cs,R x cs→cs.length=k):∀ {xs:List α} {cs:List Value} {i:Nat} {y:α} {ds:List Value},rows R xs cs→i<xs.length→R y ds →
  rows R (xs.set i y) (cs.take (i*k)++ds++cs.drop (i*k+k)):=by
 intro xs
 induction xs with
 |nil=>intro cs i y ds _ hi;simp at hi
 |cons x xs ih=>
  rintro cs i y ds ⟨c1,c2,rfl,h1,h2⟩ hi hy
  have hl:=hk _ _ h1
  cases i with
  |zero=>
   simp only[List.set_cons_zero,AhP,List.take_zero,AfQ,Afq]
   refine⟨ds,c2,?_,hy,h2⟩
   rw[Ahw,Af0 (by omega),← hl,Aga];simp
  |succ i=>
   simp only[List.set_cons_succ]
   refine⟨c1,_,?_,h1,ih h2 (by simpa using hi) hy⟩
   rw[Afp,AgV,Agp,Afg (show c1.length≤i*k+k by omega),Ahw,Af0 (show c1.length≤i*k+k+k by omega)]
   simp only[Aft,AfQ]
   rw[show i*k+k-c1.length=i*k from by omega,show i*k+k+k-c1.length=i*k+k from by omega]
section
variable {w:World} {F:Nat→Prop} {m:Mp} {H:List Ob} {fz:List Bool}
theorem AWT{ids ids':List Nat}(h:∀ i∈ids,i∈ids'){b:Nat}(hb:C4 F m H ids b):C4 F m H ids' b:=by
 rcases hb with hb|⟨i,hi,r⟩
 ·exact .inl hb
 ·exact .inr ⟨i,h i.id hi,r⟩
theorem Dat.frz{t:Ty}{d:t.den}{cs:List Value}{ids:List Nat}(h:Dat w F t d cs):Dat w (C4 F m H ids) t d cs:=h.mono (fun _ _=>rfl) (fun _=>.inl) t
theorem Dat.AaF{t:Ty}{d:t.den}{cs:List Value}{ids ids':List Nat}(hh:∀ i∈ids,i∈ids')(h:Dat w (C4 F m H ids) t d cs):Dat w (C4 F m H ids') t d cs:=h.mono (fun _ _=>rfl) (fun _=>AWT hh) t
theorem Cg{vs:Array Value}{row:List Value}(h:vs.toList.take row.length=row){j:Nat}{u:Value}(hu:row[j]? = some u):vs[j]? = some u:=by
 rw[← h,Afd]at hu
 split at hu
 ·simpa using hu
 ·cases hu
theorem TN{F':Nat→Prop}{l:Option (Nat×Nat)}{T:TypeId}{e:Ty}{xs:List e.den}(h:ObI w F m H (.arr T e xs) l){v:Value}(hr:A6 (some (.arr T e xs)) l v)(hF:∀ b,F b→F' b)(hl:∀ b c,l=some (b,c)→F' b):
  Dat w F' (.slice e) xs [v]:=by
 obtain⟨_,h⟩:=h
 cases l with
 |none=>
  obtain⟨a,rfl⟩:=hr
  simp only at h;subst h
  exact⟨a,0,rfl,Aez _,fun h=>absurd rfl h⟩
 |some p=>
  obtain⟨b,cap⟩:=p
  obtain⟨vs,row,e1,e2,e3,e4,e5,e6⟩:=h
  simp only[A6]at hr;subst hr
  refine⟨_,cap,rfl,e2,fun _=>⟨_,row,rfl,hl b cap rfl,BK (fun x _ cs hx=>hx.mono (fun _ _=>rfl) hF e) e5,fun j u hu => ?_⟩⟩
  rw[B8]
  simp only[World.cell?,e1,Afq]
  exact Cg e6 hu
theorem ATP{id:Nat}{T:TypeId}{e:Ty}{xs:List e.den}(ho:H[id]? = some (.arr T e xs)){b c:Nat}(hm:m id=some (b,c)):C4 F m H [id] b:=
 .inr ⟨.o id,by simp[Ix.id],⟨⟨_,ho,by simp,by simp⟩,.inl ⟨T,e,xs,ho⟩⟩,c,hm⟩
theorem ARN(hi:HI w F m H fz){id:Nat}{T:TypeId}{e:Ty}{xs:List e.den}(ho:H[id]? = some (.arr T e xs)){v:Value}(hr:A6 (some (.arr T e xs)) (m id) v):
  Dat w (C4 F m H [id]) (.slice e) xs [v]:=TN (hi.obj id _ ho) hr (fun _=>.inl) fun _ _ hm=>ATP ho hm
theorem AUk{α:Type}{R:α→List Value→Prop}:∀ {xs:List α} {us:List Value},us.length=xs.length→(∀ (k:Nat) (x:α) (u:Value),xs[k]? = some x→us[k]? = some u→R x [u])→rows R xs us:=by
 intro xs
 induction xs with
 |nil=>intro us hl _;exact AfA hl
 |cons x xs ih=>
  intro us hl h
  match us,hl with
  |u::us,hl=>exact⟨[u],us,rfl,h 0 x u rfl rfl,ih (by simpa using hl) fun k y v hy hv=>h (k+1) y v hy hv⟩
theorem AMe(hi:HI w F m H fz){id:Nat}{T e:TypeId}{t:Ty}{xs:List (List t.den)}{ver:Nat}(ho:H[id]? = some (.rows (.arr T) e t xs ver none)){v:Value}(hr:A6 (some (.rows (.arr T) e t xs ver none)) (m id) v):
  Dat w (C4 F m H [id]) (.slice (.slice t)) xs [v]:=by
 obtain⟨_,h⟩:=hi.obj id _ ho
 have hfr:∀ x:Ix,x.id=id→there H x→∀ b c,m x=some (b,c)→C4 F m H [id] b:=fun x hx ht b c hm=>.inr ⟨x,by simp[hx],⟨ht,.inr ⟨.arr T,e,t,xs,ver,none,by rw[hx];exact ho⟩⟩,c,hm⟩
 cases hm:m id with
 |none=>
  rw[hm]at h hr
  obtain⟨a,rfl⟩:=hr
  obtain⟨_,h⟩:=h;subst h
  exact⟨a,0,rfl,Aez _,fun h=>absurd rfl h⟩
 |some p=>
  obtain⟨b,cap⟩:=p
  rw[hm]at h hr
  obtain⟨vs,e1,e2,e3,e4,e5⟩:=h
  simp only[A6]at hr;subst hr
  refine⟨_,cap,rfl,e2,fun _=>⟨_,vs.toList.take (List.length (α:=List t.den) xs),rfl,hfr (.o id) rfl ⟨_,ho,by simp,by simp⟩ b cap hm,AUk (by rw[Ae8,show vs.toList.length=cap from e4];exact Afi e2) fun k ys u hk hu => ?_,fun j u hu => ?_⟩⟩
  ·obtain⟨h1,h2⟩:=hi.row id _ e t xs ver none ho k ys hk
   obtain⟨b',cap',u',a1,⟨vs',a2,a3⟩,a4⟩:=h2 (by simp)
   rw[hm]at a1;cases a1
   rw[e1]at a2;cases a2
   have hlt:k<List.length (α:=List t.den) xs:=by
    rcases Afa k (List.length (α:=List t.den) xs)with h'|h'
    ·exact h'
    ·rw[AfL h']at hk;cases hk
   rw[Afd,Ae6 hlt,a3]at hu
   cases hu
   exact TN h1 a4 (fun _=>.inl) (hfr (.r id k) rfl (by simp only[there];rw[ho];exact hlt))
  ·rw[B8]
   simp only[World.cell?,e1,Afq]
   rw[Afd]at hu
   split at hu
   ·simpa using hu
   ·cases hu
theorem AaR{α β:Type}{K:α→Value→Prop}{V:β→Value→Prop}:∀ {es:List (α×β)} {ms:List MapEntry},ms.length=es.length→(∀ (k:Nat) (x:α×β) (u:MapEntry),es[k]? = some x→ms[k]? = some u→K x.1 u.key∧V x.2 u.val)→AAx K V es ms:=by
 intro es
 induction es with
 |nil=>intro us hl _;exact AfA hl
 |cons x xs ih=>
  intro us hl h
  match us,hl with
  |u::us,hl=>
   obtain⟨h1,h2⟩:=h 0 x u rfl rfl
   exact⟨u,us,rfl,h1,h2,ih (by simpa using hl) fun k y v hy hv=>h (k+1) y v hy hv⟩
theorem AHy(hi:HI w F m H fz){id:Nat}{j:IntKind}{ks:List Int}{e:TypeId}{t:Ty}{xs:List (List t.den)}{ver:Nat}(ho:H[id]? = some (.rows (.map j ks) e t xs ver none)){v:Value}(hr:Lc (some (.rows (.map j ks) e t xs ver none)) (m id) v):
  Dat w (C4 F m H [id]) (.mapi j (.slice t)) (List.zip (β:=List t.den) ks xs) [v]:=by
 obtain⟨_,h⟩:=hi.obj id _ ho
 have hfr:∀ x:Ix,x.id=id→there H x→∀ b c,m x=some (b,c)→C4 F m H [id] b:=fun x hx ht b c hm=>.inr ⟨x,by simp[hx],⟨ht,.inr ⟨.map j ks,e,t,xs,ver,none,by rw[hx];exact ho⟩⟩,c,hm⟩
 obtain⟨b,cap,hm,rfl⟩:=hr
 rw[hm]at h
 obtain⟨ms,clock,e1,e2,e3,e4,_⟩:=h
 have hxk:List.length (α:=List t.den) xs=ks.length:=by rcases e4 with h|⟨h,_⟩;exact h;cases h
 have hmk:ms.toList.length=ks.length:=by have:=Af5 List.length e3;simpa using this
 refine⟨b,ms,clock,rfl,hfr (.o id) rfl ⟨_,ho,by simp,by simp⟩ b cap hm,e1,AaR (by rw[hmk,List.length_zip,hxk,Nat.min_self]) fun k x u hx hu => ?_⟩
 rw[List.getElem?_zip_eq_some]at hx
 obtain⟨hk,hys⟩:=hx
 obtain⟨h1,h2⟩:=hi.row id _ e t xs ver none ho k x.2 hys
 obtain⟨b',cap',u',a1,⟨ms',clock',en,a2,a3,rfl⟩,a4⟩:=h2 (by simp)
 rw[hm]at a1;cases a1
 rw[e1]at a2;cases a2
 rw[hu]at a3;cases a3
 have hlt:k<List.length (α:=List t.den) xs:=by
  rcases Afa k (List.length (α:=List t.den) xs)with h'|h'
  ·exact h'
  ·rw[AfL h']at hys;cases hys
 refine⟨?_,TN h1 a4 (fun _=>.inl) (hfr (.r id k) rfl (by simp only[there];rw[ho];exact hlt))⟩
 have:=Af5 (fun l:List Value=>l[k]?) e3
 simp only[Af4,hu,hk,Ag3,Aep]at this
 exact this
theorem ARM(hi:HI w F m H fz){id:Nat}{T:TypeId}{e:Ty}{xs:List e.den}(ho:H[id]? = some (.arr T e xs)){off n:Nat}{v:Value}(hr:Ga (some (.arr T e xs)) (m id) off n v):
  Dat w (C4 F m H [id]) (.slice e) (DI off n xs) [v]:=by
 have h:=hi.obj id _ ho
 obtain⟨_,h⟩:=h
 obtain⟨hle,hr⟩:=hr
 have hlen:(DI off n xs).length=n:=by unfold DI;rw[Ae8,AfW];omega
 cases hm:m id with
 |none=>
  rw[hm]at h hr
  obtain⟨a,rfl⟩:=hr
  simp only at h;subst h
  have hn:n=0:=by have:=hle;simp at this;exact this.2
  refine⟨a,0,by rw[hlen],by rw[hlen];omega,fun h=>absurd ?_ h⟩
  simp[DI]
 |some p=>
  obtain⟨b,cap⟩:=p
  rw[hm]at h hr
  obtain⟨vs,row,e1,e2,e3,e4,e5,e6⟩:=h
  obtain⟨a,rfl,ha⟩:=hr
  have hk:=fun(x:e.den) cs (h:Dat w F e x cs)=>Dat.length e h
  refine⟨a,cap-off,by rw[hlen],by rw[hlen];omega,fun hne => ?_⟩
  have hn:0<n:=by
   rcases Af7 n with h0|h0
   ·exact absurd (AfA (hlen.trans h0)) hne
   ·exact h0
  refine⟨_,(row.drop (off*e.size)).take (n*e.size),ha (by omega),ATP ho hm,BK (fun x _ cs hx=>hx.frz) (Df hk n (G5 hk off e5)),fun j u hu => ?_⟩
  rw[B8]
  simp only[World.cell?,e1]
  rw[Afd]at hu
  split at hu
  ·rw[Afo]at hu
   exact Cg e6 hu
  ·cases hu
theorem AEf(hi:HI w F m H fz){t:Ty}{v:AV}{x:t.den}{fr:List Nat}(h:DZ H t v=some (x,fr))(ht:t.isAgg=false){u:Value}(hr:Rep w F m H v u):Dat w (C4 F m H fr) t x [u]:=by
 unfold DZ at h
 split at h
 ·rename_i t' d
  simp only[Ae4,AfJ]at h
  obtain⟨y,h1,rfl,rfl⟩:=h
  obtain⟨e,h2⟩:=Cr h1
  subst e;simp only at h2;subst h2
  unfold Rep Bf at hr
  rw[ht]at hr
  exact Dat.frz (by simpa using hr)
 ·rename_i e' d
  simp only[Ae4,AfJ]at h
  obtain⟨y,h1,rfl,rfl⟩:=h
  obtain⟨e,h2⟩:=Cr h1
  subst e;simp only at h2;subst h2
  unfold Rep at hr
  exact Dat.frz hr.1
 ·split at h
  ·simp only[Aep,AfJ]at h
   obtain⟨rfl,rfl⟩:=h
   unfold Rep at hr;subst hr
   exact⟨none,0,rfl,Aez _,fun h=>absurd rfl h⟩
  ·simp only[Aep,AfJ]at h
   obtain⟨_,rfl⟩:=h
   unfold Rep at hr;subst hr
   rfl
  ·cases h
 ·rename_i id
  split at h
  ·rename_i T e xs ho
   simp only[Ae4,AfJ]at h
   obtain⟨y,h1,rfl,rfl⟩:=h
   obtain⟨e',h2⟩:=Cr h1
   subst e';simp only at h2;subst h2
   unfold Rep at hr
   rw[ho]at hr
   exact ARN hi ho hr
  ·cases h
 ·rename_i id off n
  split at h
  ·rename_i T e xs ho
   simp only[Ae4,AfJ]at h
   obtain⟨y,h1,rfl,rfl⟩:=h
   obtain⟨e',h2⟩:=Cr h1
   subst e';simp only at h2;subst h2
   unfold Rep at hr
   rw[ho]at hr
   exact ARM hi ho hr
  ·cases h
 ·rename_i id
  split at h
  ·rename_i j ks _ e xs ver ho
   simp only[Ae4,AfJ]at h
   obtain⟨y,h1,rfl,rfl⟩:=h
   obtain⟨e',h2⟩:=Cr h1
   subst e';simp only at h2;subst h2
   unfold Rep at hr
   rw[ho]at hr
   exact AHy hi ho hr
  ·cases h
 ·cases h
theorem Acf{α:Type}{one:List AV→Option (α×List Nat×List AV)}{R:List Nat→α→List Value→Prop}
  (hR:∀ fr fr' x cs,(∀ i∈fr,i∈fr')→R fr x cs→R fr' x cs)
  (h1:∀ cs x fr rest us,one cs=some (x,fr,rest)→Aa w F m H cs us→∃ us1 us2,us=us1++us2∧R fr x us1∧Aa w F m H rest us2) :
  ∀ (n:Nat) {cs:List AV} {xs:List α} {fr:List Nat} {rest:List AV} {us:List Value},QN one n cs=some (xs,fr,rest)→Aa w F m H cs us →
   ∃ us1 us2,us=us1++us2∧xs.length=n∧rows (R fr) xs us1∧Aa w F m H rest us2:=by
 intro n
 induction n with
 |zero=>
  intro cs xs fr rest us h hr
  simp only[QN,Aep,AfJ]at h
  obtain⟨rfl,rfl,rfl⟩:=h
  exact⟨[],us,rfl,rfl,rfl,hr⟩
 |succ n ih=>
  intro cs xs fr rest us h hr
  simp only[QN]at h
  split at h
  ·cases h
  ·rename_i x f cs1 ho
   split at h
   ·cases h
   ·rename_i ys g cs2 hi
    simp only[Aep,AfJ]at h
    obtain⟨rfl,rfl,rfl⟩:=h
    obtain⟨u1,u2,rfl,r1,r2⟩:=h1 _ _ _ _ _ ho hr
    obtain⟨u3,u4,rfl,hl,r3,r4⟩:=ih hi r2
    exact⟨u1++u3,u4,by simp,by simp[hl],⟨u1,u3,rfl,hR _ _ _ _ (fun i hi=>by simp[hi]) r1,BK (fun x _ cs hx=>hR _ _ _ _ (fun i hi=>by simp[hi]) hx) r3⟩,r4⟩
theorem AAM(hi:HI w F m H fz):∀ (t:Ty) {cs:List AV} {x:t.den} {fr:List Nat} {rest:List AV} {us:List Value},An H t cs=some (x,fr,rest)→Aa w F m H cs us →
  ∃ us1 us2,us=us1++us2∧Dat w (C4 F m H fr) t x us1∧Aa w F m H rest us2:=by
 have cell:∀ (t:Ty),t.isAgg=false→∀ {c:AV} {cs:List AV} {x:t.den} {fr:List Nat} {rest:List AV} {us:List Value} {p:Option (t.den×List Nat)},DZ H t c=p →
   p=some (x,fr)→cs=rest→Aa w F m H (c::cs) us →
   ∃ us1 us2,us=us1++us2∧Dat w (C4 F m H fr) t x us1∧Aa w F m H rest us2:=by
  rintro t ht c cs x fr rest us p hy rfl rfl hr
  unfold Aa at hr
  obtain⟨v,vs',rfl,h1,h2⟩:=hr
  exact⟨[v],vs',rfl,AEf hi hy ht h1,h2⟩
 intro t
 induction t with
 |unit=>
  intro cs x fr rest us h hr
  simp only[An,Aep,AfJ]at h
  obtain⟨_,rfl,rfl⟩:=h
  exact⟨[],us,rfl,rfl,hr⟩
 |bool=>
  intro cs x fr rest us h hr
  cases cs with
  |nil=>simp[An]at h
  |cons c cs=>
   unfold An at h
   split at h
   ·cases h
   ·rename_i y f hy
    simp only[Aep,AfJ]at h
    obtain⟨h1,h2,h3⟩:=h
    exact cell .bool rfl hy (by rw[h1,h2]) h3 hr
 |int k=>
  intro cs x fr rest us h hr
  cases cs with
  |nil=>simp[An]at h
  |cons c cs=>
   unfold An at h
   split at h
   ·cases h
   ·rename_i y f hy
    simp only[Aep,AfJ]at h
    obtain⟨h1,h2,h3⟩:=h
    exact cell (.int k) rfl hy (by rw[h1,h2]) h3 hr
 |slice e _=>
  intro cs x fr rest us h hr
  cases cs with
  |nil=>simp[An]at h
  |cons c cs=>
   unfold An at h
   split at h
   ·cases h
   ·rename_i y f hy
    simp only[Aep,AfJ]at h
    obtain⟨h1,h2,h3⟩:=h
    exact cell (.slice e) rfl hy (by rw[h1,h2]) h3 hr
 |nul e=>
  intro cs x fr rest us h hr
  cases cs with
  |nil=>simp[An]at h
  |cons c cs=>
   unfold An at h
   split at h
   ·cases h
   ·rename_i y f hy
    simp only[Aep,AfJ]at h
    obtain⟨_,h2,h3⟩:=h
    exact cell (.nul e) rfl hy (by rw[h2]) h3 hr
 |mapi j e _=>
  intro cs x fr rest us h hr
  cases cs with
  |nil=>simp[An]at h
  |cons c cs=>
   unfold An at h
   split at h
   ·cases h
   ·rename_i y f hy
    simp only[Aep,AfJ]at h
    obtain⟨h1,h2,h3⟩:=h
    exact cell (.mapi j e) rfl hy (by rw[h1,h2]) h3 hr
 |prod a b iha ihb=>
  intro cs x fr rest us h hr
  simp only[An]at h
  split at h
  ·cases h
  ·rename_i y f cs1 hy
   split at h
   ·cases h
   ·rename_i z g cs2 hz
    simp only[Aep,AfJ]at h
    obtain⟨rfl,rfl,rfl⟩:=h
    obtain⟨u1,u2,rfl,r1,r2⟩:=iha hy hr
    obtain⟨u3,u4,rfl,r3,r4⟩:=ihb hz r2
    exact⟨u1++u3,u4,by simp,⟨u1,u3,rfl,r1.AaF (fun i hi=>by simp[hi]),r3.AaF (fun i hi=>by simp[hi])⟩,r4⟩
 |arr n e ih=>
  intro cs x fr rest us h hr
  simp only[An]at h
  obtain⟨u1,u2,e1,e2,e3,e4⟩:=Acf (R:=fun fr=>Dat w (C4 F m H fr) e) (fun fr fr' x cs h1 h2=>h2.AaF h1) (fun cs x fr rest us h1 h2=>ih h1 h2) n h hr
  exact⟨u1,u2,e1,⟨e2,e3⟩,e4⟩
theorem C7(hi:HI w F m H fz){t:Ty}{v:AV}{x:t.den}{fr:List Nat}(h:EG H t v=some (x,fr)){u:Value}(hr:Rep w F m H v u):Bf w (C4 F m H fr) t x u:=by
 unfold EG at h
 split at h
 ·rename_i ht
  unfold Bf
  rw[Ae6 ht]
  unfold asAgg at h
  split at h
  ·rename_i t' d
   simp only[Ae4,AfJ]at h
   obtain⟨y,h1,rfl,rfl⟩:=h
   obtain⟨e,h2⟩:=Cr h1
   subst e;simp only at h2;subst h2
   unfold Rep Bf at hr
   rw[Ae6 ht]at hr
   obtain⟨vs,e1,e2⟩:=hr
   exact⟨vs,e1,e2.frz⟩
  ·rename_i cs
   split at h
   ·rename_i y f hy
    simp only[Aep,AfJ]at h
    obtain⟨rfl,rfl⟩:=h
    unfold Rep at hr
    obtain⟨vs,rfl,hr,_⟩:=hr
    obtain⟨u1,u2,e1,e2,e3⟩:=AAM hi t hy hr
    unfold Aa at e3;subst e3
    rw[Afx]at e1
    exact⟨vs,rfl,by rw[e1];exact e2⟩
   ·cases h
  ·cases h
 ·rename_i ht
  unfold Bf
  rw[Ae3 (by simp[ht])]
  exact AEf hi h ht hr
theorem Aap(hi:HI w F m H fz){t:Ty}{v:AV}{x:t.den}{fr:List Nat}(h:Vq H t v=some (x,fr)){u:Value}(hr:Rep w F m H v u):Bf w (C4 F m H fr) t x u:=by
 unfold Vq at h
 split at h
 ·split at h
  ·rename_i id T e t' xs ver ho
   simp only[Ae4,AfJ]at h
   obtain⟨y,h1,rfl,rfl⟩:=h
   obtain⟨e',h2⟩:=Cr h1
   subst e';simp only at h2;subst h2
   unfold Rep at hr
   rw[ho]at hr
   exact AMe hi ho hr
  ·exact C7 hi h hr
 ·exact C7 hi h hr
theorem AMS{n:Nat}(e:Ty)(d:List e.den)(h:d.length=n):BQ (.arr n e) d=d.flatMap (BQ e):=by
 have gen:∀ (xs:List e.den) (f:Nat→e.den),(∀ i,i<xs.length→f i=xs.getD i e.zero)→((List.range xs.length).flatMap fun i=>BQ e (f i))=xs.flatMap (BQ e):=by
  intro xs
  induction xs with
  |nil=>intro f _;rfl
  |cons x xs ih=>
   intro f hf
   rw[Aex,List.range_succ_eq_map,AgT,AgT,List.flatMap_map]
   have h0:=hf 0 (by simp)
   simp only[List.getD_cons_zero]at h0
   rw[h0]
   congr 1
   exact ih (fun i=>f (i+1)) fun i hi=>by
    have:=hf (i+1) (by simp;exact hi)
    simpa using this
 subst h
 exact gen d (fun i=>AX d i e.zero) fun i _=>rfl
theorem Ht:∀ (t:Ty) {d:t.den} {cs:List Value},Dat w F t d cs→Aa w F m H (BQ t d) cs:=by
 have one:∀ (t:Ty) (d:t.den) (u:Value),t.isAgg=false→Dat w F t d [u]→Aa w F m H [.data t d] [u]:=by
  intro t d u ht h
  unfold Aa
  refine⟨u,[],rfl,?_,?_⟩
  ·unfold Rep Bf;rw[ht];simpa using h
  ·unfold Aa;rfl
 intro t
 induction t with
 |unit=>rintro d cs rfl;simp only[BQ];unfold Aa;rfl
 |bool=>rintro d cs h;obtain rfl:=h;exact one .bool d _ rfl rfl
 |int k=>rintro d cs h;obtain rfl:=h;exact one (.int k) d _ rfl rfl
 |slice e _=>rintro d cs h;obtain⟨a,cap,rfl,h1,h2⟩:=h;exact one (.slice e) d _ rfl ⟨a,cap,rfl,h1,h2⟩
 |nul e=>rintro d cs h;obtain rfl:=h;simp only[BQ];unfold Aa;exact⟨_,[],rfl,by unfold Rep;rfl,by unfold Aa;rfl⟩
 |mapi j e _=>rintro d cs h;have h':=h;obtain⟨b,ms,clock,rfl,_⟩:=h';exact one (.mapi j e) d _ rfl h
 |prod a b iha ihb=>
  rintro d cs ⟨c1,c2,rfl,h1,h2⟩
  exact GP (iha h1) (ihb h2)
 |arr n e ih=>
  rintro d cs ⟨hlen,h⟩
  rw[AMS e d hlen]
  have key:∀ (xs:List e.den) (cs:List Value),rows (Dat w F e) xs cs→Aa w F m H (xs.flatMap (BQ e)) cs:=by
   intro xs
   induction xs with
   |nil=>rintro cs rfl;simp only[List.flatMap_nil];unfold Aa;rfl
   |cons x xs ih'=>
    rintro cs ⟨c1,c2,rfl,h1,h2⟩
    rw[AgT]
    exact GP (ih h1) (ih' _ h2)
  exact key d cs h
theorem Qt{v:AV}{u:Value}(hr:Rep w F m H v u):Aa w F m H [v] [u]:=by
 unfold Aa
 exact⟨u,[],rfl,hr,by unfold Aa;rfl⟩
theorem Mr:Aa w F m H [] []:=by unfold Aa;rfl
theorem Ex{u:Value}(h:u.oneCell'=true):u.cells.toList=[u]:=by
 cases u<;>first|rfl|(simp[Value.oneCell']at h)
def ASr:AV→Prop
 |.junk=>False
 |.tup _=>False
 |.agg _=>False
 |.data t _=>t.isAgg=false
 |_=>True
theorem Zq{v:AV}{u:Value}(hr:Rep w F m H v u)(hv:ASr v):u.oneCell'=true:=by
 cases v with
 |junk=>exact hv.elim
 |tup vs=>exact hv.elim
 |agg cs=>exact hv.elim
 |data t d=>
  unfold ASr at hv
  unfold Rep Bf at hr
  rw[hv]at hr
  exact Dat.Gm t (by simpa using hr) u (by simp)
 |nils e=>unfold Rep at hr;subst hr;rfl
 |clip t xs=>unfold Rep at hr;obtain⟨_,a,rfl⟩:=hr;rfl
 |own id=>
  unfold Rep at hr
  cases ho:H[id]? with
  |none=>rw[ho]at hr;exact hr.elim
  |some o=>rw[ho]at hr;exact hr.one
 |win id off n=>
  unfold Rep at hr
  cases ho:H[id]? with
  |none=>rw[ho]at hr;exact hr.elim
  |some o=>rw[ho]at hr;exact hr.one
 |ptr id off=>
  unfold Rep at hr
  cases ho:H[id]? with
  |none=>rw[ho]at hr;exact hr.elim
  |some o=>rw[ho]at hr;exact hr.one
 |eptr id i sub=>
  unfold Rep at hr
  cases ho:H[id]? with
  |none=>rw[ho]at hr;exact hr.elim
  |some o=>rw[ho]at hr;exact hr.one
 |dptr cs=>unfold Rep at hr;obtain⟨ad,us,rfl,_⟩:=hr;rfl
 |clo f cs=>unfold Rep at hr;obtain⟨us,rfl,_⟩:=hr;rfl
 |bnd f cs=>unfold Rep at hr;obtain⟨us,rfl,_⟩:=hr;rfl
 |str xs=>unfold Rep at hr;obtain⟨us,rfl,_⟩:=hr;rfl
 |mp id=>
  unfold Rep at hr
  cases ho:H[id]? with
  |none=>rw[ho]at hr;exact hr.elim
  |some o=>rw[ho]at hr;exact hr.one
 |rowp id i ver=>
  unfold Rep at hr
  cases ho:H[id]? with
  |none=>rw[ho]at hr;exact hr.elim
  |some o=>rw[ho]at hr;exact hr.one
 |glob g=>unfold Rep at hr;subst hr;rfl
 |nilp=>unfold Rep at hr;subst hr;rfl
 |aptr id n=>
  unfold Rep at hr
  cases ho:H[id]? with
  |none=>rw[ho]at hr;exact hr.elim
  |some o=>rw[ho]at hr;exact hr.one
theorem cells?_ok{v:AV}{cs:List AV}(h:cells? v=some cs){u:Value}(hr:Rep w F m H v u):Aa w F m H cs u.cells.toList:=by
 have agg:∀ (t:Ty) (d:t.den),t.isAgg=true→Rep w F m H (.data t d) u→Aa w F m H (BQ t d) u.cells.toList:=by
  intro t d ht hr
  unfold Rep Bf at hr
  rw[Ae6 ht]at hr
  obtain⟨vs,rfl,hd⟩:=hr
  exact Ht t hd
 have one:ASr v→cs=[v]→Aa w F m H cs u.cells.toList:=by
  rintro hv rfl
  rw[Ex (Zq hr hv)]
  exact Qt hr
 cases v with
 |junk=>simp[cells?]at h
 |tup vs=>simp[cells?]at h
 |agg cs'=>
  simp only[cells?,Aep]at h;subst h
  unfold Rep at hr
  obtain⟨vs,rfl,hr',_⟩:=hr
  exact hr'
 |data t d=>
  cases t with
  |unit=>
   simp only[cells?,Aep]at h;subst h
   exact agg .unit d rfl hr
  |prod a b=>simp only[cells?,Aep]at h;subst h;exact agg _ d rfl hr
  |arr n e=>simp only[cells?,Aep]at h;subst h;exact agg _ d rfl hr
  |bool=>exact one rfl (by simpa [cells?]using h.symm)
  |int k=>exact one rfl (by simpa [cells?]using h.symm)
  |slice e=>exact one rfl (by simpa [cells?]using h.symm)
  |nul e=>exact one rfl (by simpa [cells?]using h.symm)
  |mapi j e=>exact one rfl (by simpa [cells?]using h.symm)
 |nils e=>exact one trivial (by simpa [cells?]using h.symm)
 |clip t xs=>exact one trivial (by simpa [cells?]using h.symm)
 |own id=>exact one trivial (by simpa [cells?]using h.symm)
 |win id off n=>exact one trivial (by simpa [cells?]using h.symm)
 |ptr id off=>exact one trivial (by simpa [cells?]using h.symm)
 |eptr id i sub=>exact one trivial (by simpa [cells?]using h.symm)
 |dptr cs'=>exact one trivial (by simpa [cells?]using h.symm)
 |clo f cs'=>exact one trivial (by simpa [cells?]using h.symm)
 |bnd f cs'=>exact one trivial (by simpa [cells?]using h.symm)
 |str xs=>exact one trivial (by simpa [cells?]using h.symm)
 |mp id=>exact one trivial (by simpa [cells?]using h.symm)
 |rowp id i ver=>exact one trivial (by simpa [cells?]using h.symm)
 |glob g=>exact one trivial (by simpa [cells?]using h.symm)
 |nilp=>exact one trivial (by simpa [cells?]using h.symm)
 |aptr id n=>exact one trivial (by simpa [cells?]using h.symm)
theorem cells?_one{v:AV}{cs:List AV}(h:cells? v=some cs){u:Value}(hr:Rep w F m H v u):∀ x∈u.cells.toList,x.oneCell'=true:=by
 have one:ASr v→∀ x∈u.cells.toList,x.oneCell'=true:=by
  intro hv x hx
  have h1:=Zq hr hv
  rw[Ex h1]at hx
  simp at hx;subst hx;exact h1
 have agg:∀ (t:Ty) (d:t.den),t.isAgg=true→Rep w F m H (.data t d) u→∀ x∈u.cells.toList,x.oneCell'=true:=by
  intro t d ht hr
  unfold Rep Bf at hr
  rw[Ae6 ht]at hr
  obtain⟨vs,rfl,hd⟩:=hr
  exact Dat.Gm t hd
 cases v with
 |junk=>simp[cells?]at h
 |tup vs=>simp[cells?]at h
 |agg cs'=>
  unfold Rep at hr
  obtain⟨vs,rfl,_,h1⟩:=hr
  exact h1
 |data t d=>
  cases t with
  |unit=>exact agg .unit d rfl hr
  |prod a b=>exact agg _ d rfl hr
  |arr n e=>exact agg _ d rfl hr
  |bool=>exact one rfl
  |int k=>exact one rfl
  |slice e=>exact one rfl
  |nul e=>exact one rfl
  |mapi j e=>exact one rfl
 |nils e=>exact one trivial
 |clip t xs=>exact one trivial
 |own id=>exact one trivial
 |win id off n=>exact one trivial
 |ptr id off=>exact one trivial
 |eptr id i sub=>exact one trivial
 |dptr cs'=>exact one trivial
 |clo f cs'=>exact one trivial
 |bnd f cs'=>exact one trivial
 |str xs=>exact one trivial
 |mp id=>exact one trivial
 |rowp id i ver=>exact one trivial
 |glob g=>exact one trivial
 |nilp=>exact one trivial
 |aptr id n=>exact one trivial
theorem OC:∀ (cs:List AV) (vs:List Value),Bu cs vs=true→∀ x∈vs,x.oneCell'=true:=by
 intro cs
 induction cs with
 |nil=>
  intro vs h x hx
  cases vs with
  |nil=>cases hx
  |cons v vs=>simp[Bu]at h
 |cons c cs ih=>
  intro vs h x hx
  cases vs with
  |nil=>cases hx
  |cons v vs=>
   simp only[Bu,Aet]at h
   rcases Aew.1 hx with rfl|hx
   ·have h:=h.1
    unfold Ct at h
    split at h<;>first|rfl|cases h
   ·exact ih vs h.2 x hx
theorem I7{cs new out:List AV}{off:Nat}(h:DT cs new off=some out){us vs:List Value}(h1:Aa w F m H cs us)(h2:Aa w F m H new vs):
  off+new.length≤cs.length∧Aa w F m H out (us.take off++vs++us.drop (off+new.length)):=by
 unfold DT at h
 split at h
 ·rename_i hle
  simp only[Aep]at h;subst h
  exact⟨hle,GP (GP (NZ h1 off) h2) (EX h1 _)⟩
 ·cases h
theorem ARP(v:Value):Rep w F m H (AH0 v) v:=by
 unfold AH0
 split
 ·unfold Rep Bf;exact rfl
 ·unfold Rep Bf;exact rfl
 ·unfold Rep;rfl
 ·unfold Rep;rfl
 ·unfold Rep;exact⟨_,rfl,rfl⟩
 ·unfold Rep;trivial
theorem AAb{tmps:List AV}{a:Act}(h:∀ t,Rep w F m H (tmps.getD t .junk) (a.tmps.getD t undef))(x:Operand):Rep w F m H (BU tmps x) (a.eval x):=by
 cases x with
 |tmp t=>exact h t
 |const v=>exact ARP v
 |func f=>unfold BU Rep;exact⟨#[],rfl,Mr⟩
 |global g=>unfold BU Rep;rfl
theorem KB:∀ (cs:List AV) (vs:List Value),Bu cs vs=true→Aa w F m H cs vs:=by
 intro cs
 induction cs with
 |nil=>intro vs h;cases vs with
  |nil=>exact Mr
  |cons v vs=>simp[Bu]at h
 |cons c cs ih=>
  intro vs h
  cases vs with
  |nil=>simp[Bu]at h
  |cons v vs=>
   simp only[Bu,Aet]at h
   unfold Aa
   refine⟨v,vs,rfl,?_,ih vs h.2⟩
   have h:=h.1
   unfold Ct at h
   split at h
   ·simp only[AgU]at h;subst h;unfold Rep Bf;exact rfl
   ·simp only[Aet,Aer,AgU]at h
    obtain⟨rfl,rfl⟩:=h
    unfold Rep Bf;exact rfl
   ·unfold Rep;rfl
   ·cases h
end
end Go.Pev
end
section
namespace Go.Pev
open Go.RowKit
section
variable {P:Program} {w:World}
theorem run_typeInfo{T:TypeId}{i:TypeInfo}(h:P.info? T=some i):(typeInfo T).run P w = .ok i w:=by simp[typeInfo,h]
theorem run_sizeOf{T:TypeId}{i:TypeInfo}(h:P.info? T=some i):(sizeOf T).run P w = .ok i.size w:=by simp[sizeOf,run_typeInfo h]
theorem BC{T:TypeId}{n:Nat}(h:BI P T=some n):∃ i,P.info? T=some i∧i.size=n:=by
 unfold BI at h
 simpa [Ae4]using h
theorem CQ{T:TypeId}{b:Bool}(h:D0 P T=some b):(isAgg T).run P w = .ok b w:=by
 unfold D0 at h
 split at h
 ·rename_i hu;simp only[Aep]at h;subst h;simp[isAgg,run_underlying hu]
 ·rename_i hu;simp only[Aep]at h;subst h;simp[isAgg,run_underlying hu]
 ·rename_i d h1 h2 hu
  simp only[Aep]at h;subst h
  simp only[isAgg,Sem.run_bind,run_underlying hu,Result.andThen_ok]
  rfl
 ·cases h
theorem Ck{F:Nat→Prop}{m:Mp}{H:List Ob}{T:TypeId}{n:Nat}{ag:Bool}(hs:BI P T=some n)(ha:D0 P T=some ag){cs:List AV}{us:List Value}{v:AV}{ad:Addr}
  (hl:loadCells ag n cs=some v) (hr:Aa w F m H cs us) (h1:∀ u∈us,u.oneCell'=true) (hc:∀ j u,us[j]? = some u→w.cell? (ad.add j)=some u) :
  ∃ u,(loadVar T ad).run P w = .ok u w∧Rep w F m H v u:=by
 obtain⟨i,hi,rfl⟩:=BC hs
 unfold loadCells at hl
 cases ag with
 |true=>
  simp only at hl
  split at hl
  ·rename_i hle
   simp only[Aep]at hl;subst hl
   have hlen:=Ar hr
   have hl2:(us.take i.size).length=i.size:=by rw[Ae8];omega
   refine⟨.agg (us.take i.size).toArray,?_,?_⟩
   ·have:=run_loadCells_list (P:=P) w ad (us.take i.size) (fun j u hu=>by
     rw[Afd]at hu
     split at hu
     ·exact hc j u hu
     ·cases hu)
    rw[hl2]at this
    simp[loadVar,CQ ha,run_sizeOf hi,this]
   ·unfold Rep
    exact⟨_,rfl,by simpa using NZ hr i.size,fun u hu=>h1 u (by simpa using Age (by simpa using hu))⟩
  ·cases hl
 |false=>
  simp only at hl
  cases cs with
  |nil=>simp at hl
  |cons c cs=>
   simp only[List.head?_cons,Aep]at hl;subst hl
   unfold Aa at hr
   obtain⟨u,us',rfl,h3,_⟩:=hr
   refine⟨u,?_,h3⟩
   have:=hc 0 u rfl
   have h0:ad.add 0=ad:=by simp[Addr.add]
   rw[h0]at this
   simp[loadVar,CQ ha,this]
theorem DA{T T':TypeId}{n:Nat}(hs:BI P T=some n){b off:Nat}{cur:Array Value}(hb:w.heap[b]? = some (.cells cur T' (0,0))){u:Value}(hu:u.cells.size=n)
  (h1:∀ x∈u.cells.toList,x.oneCell'=true) (hfit:off+n≤cur.size) :
  (storeVar T ⟨b,off,none⟩ u).run P w = .ok () (w.setRow b (cur.toList.take off++u.cells.toList++cur.toList.drop (off+n)).toArray):=by
 obtain⟨i,hi,rfl⟩:=BC hs
 have:=run_storeCells_at P b off T' u.cells.toList 0 cur w hb (by simp[hu];omega) h1
 simp only[AgN,Ae7]at this
 rw[hu]at this
 simp[storeVar,run_sizeOf hi,hu,this]
theorem Bn{T:TypeId}{t:Ty}{cs:List AV}(h:zeroAt P T=some (t,cs)):AE7 P T=some t∧cs=zeroCells t∧∃ i z,P.info? T=some i∧i.zero=some z∧Bu cs z.cells.toList=true∧i.size=t.size∧t.isAgg=Sr z:=by
 unfold zeroAt at h
 split at h
 ·rename_i t' i ht hi
  split at h
  ·rename_i z hz
   split at h
   ·rename_i hok
    simp only[Aep,AfJ]at h
    obtain⟨rfl,rfl⟩:=h
    simp only[Aet,AgU]at hok
    exact⟨ht,rfl,i,z,hi,hz,hok.1.1,hok.1.2,hok.2⟩
   ·cases h
  ·cases h
 ·cases h
theorem BX{T:TypeId}{i:TypeInfo}{z:Value}(h:P.info? T=some i)(hz:i.zero=some z):(zeroValue T).run P w = .ok z w:=by simp[zeroValue,run_typeInfo h,hz]
theorem Ba{F:Nat→Prop}:∀ (t:Ty) (vs:List Value),Bu (zeroCells t) vs=true→Dat w F t t.zero vs:=by
 have app:∀ (asz bs:List AV) (vs:List Value),Bu (asz++bs) vs=true→∃ v1 v2,vs=v1++v2∧Bu asz v1=true∧Bu bs v2=true:=by
  intro asz
  induction asz with
  |nil=>intro bs vs h;exact⟨[],vs,rfl,rfl,h⟩
  |cons a asz ih=>
   intro bs vs h
   cases vs with
   |nil=>simp[Bu]at h
   |cons v vs=>
    simp only[AfK,Bu,Aet]at h
    obtain⟨v1,v2,rfl,h1,h2⟩:=ih bs vs h.2
    exact⟨v::v1,v2,rfl,by simp[Bu,h.1,h1],h2⟩
 have one:∀ (a:AV) (vs:List Value),Bu [a] vs=true→∃ v,vs=[v]∧Ct a v=true:=by
  intro a vs h
  cases vs with
  |nil=>simp[Bu]at h
  |cons v vs=>
   simp only[Bu,Aet]at h
   cases vs with
   |nil=>exact⟨v,rfl,h.1⟩
   |cons x xs=>simp[Bu]at h
 intro t
 induction t with
 |unit=>intro vs h;cases vs with
  |nil=>exact rfl
  |cons v vs=>simp[Bu,zeroCells]at h
 |bool=>
  intro vs h
  obtain⟨v,hv,h'⟩:=one (.data .bool false) _ h
  subst hv;clear h;have h:=h'
  unfold Ct at h
  split at h
  ·rename_i h1;simp only[AV.data.injEq]at h1;simp only[AgU]at h;subst h
   obtain⟨_,h1⟩:=h1
   exact Af5 (fun b=>[Value.bool b]) (eq_of_heq h1).symm
  ·rename_i h1;simp at h1
  ·rename_i h1;simp at h1
  ·cases h
 |int k=>
  intro vs h
  obtain⟨v,hv,h'⟩:=one (.data (.int k) (0:Int)) _ h
  subst hv;clear h;have h:=h'
  unfold Ct at h
  split at h
  ·rename_i h1;simp at h1
  ·rename_i h1
   simp only[AV.data.injEq,Ty.int.injEq]at h1
   simp only[Aet,Aer,AgU]at h
   obtain⟨rfl,h1⟩:=h1
   obtain⟨rfl,rfl⟩:=h
   exact Af5 (fun n=>[Value.int k n]) (eq_of_heq h1).symm
  ·rename_i h1;simp at h1
  ·cases h
 |slice e _=>
  intro vs h
  obtain⟨v,hv,h'⟩:=one (.nils e) _ h
  subst hv;clear h;have h:=h'
  unfold Ct at h
  split at h
  ·rename_i h1;simp at h1
  ·rename_i h1;simp at h1
  ·exact⟨none,0,rfl,Aez _,fun h=>absurd rfl h⟩
  ·cases h
 |nul e=>
  intro vs h
  obtain⟨v,hv,h'⟩:=one (.nils e) _ h
  subst hv;clear h;have h:=h'
  unfold Ct at h
  split at h
  ·rename_i h1;simp at h1
  ·rename_i h1;simp at h1
  ·rfl
  ·cases h
 |mapi j e _=>
  intro vs h
  obtain⟨v,hv,h'⟩:=one .junk _ h
  simp[Ct]at h'
 |prod a b iha ihb=>
  intro vs h
  obtain⟨v1,v2,rfl,h1,h2⟩:=app _ _ _ h
  exact⟨v1,v2,rfl,iha _ h1,ihb _ h2⟩
 |arr n e ih=>
  intro vs h
  refine⟨by simp[Ty.zero],?_⟩
  simp only[zeroCells]at h
  have key:∀ (n:Nat) (vs:List Value),Bu (List.replicate n (zeroCells e)).flatten vs=true→rows (Dat w F e) (List.replicate n e.zero) vs:=by
   intro n
   induction n with
   |zero=>intro vs h;cases vs with
    |nil=>exact rfl
    |cons v vs=>simp[Bu]at h
   |succ n ihn=>
    intro vs h
    rw[List.replicate_succ,Agu]at h
    obtain⟨v1,v2,rfl,h1,h2⟩:=app _ _ _ h
    exact⟨v1,v2,rfl,ih _ h1,ihn _ h2⟩
  exact key n vs h
theorem M5{F:Nat→Prop}{t:Ty}{z:Value}(h:Bu (zeroCells t) z.cells.toList=true)(ha:t.isAgg=Sr z):Bf w F t t.zero z:=by
 have hd:=Ba (w:=w) (F:=F) t _ h
 unfold Bf
 split
 ·rename_i hg
  rw[hg]at ha
  cases z<;>simp[Sr]at ha
  exact⟨_,rfl,hd⟩
 ·rename_i hg
  have hz:z.cells.toList=[z]:=by
   cases z<;>simp_all [Sr,Value.cells]
  rw[hz]at hd;exact hd
end
end Go.Pev
end
section
namespace Go.Pev
open Go.RowKit
def RT(P:Program)(g:FuncId):Prop:=∀ args w,(callFunc g args).run P w = .ok (.enter g args) w
def AR(P:Program)(g:FuncId)(s:Spec):Prop:=
 ∀ R args H fz slot k r,s R args H fz slot k=some r→∃ v e,k v e=some r∧(∀ R' k',s R' args H fz slot k'=k' v e)∧RT P g ∧
  ∀ w F m vals,HI w F m H fz→Aa w F m H args vals→Calls P g vals.toArray w fun en w'=>∃ u,en = .returned u∧∃ F' m',Ap w F m H fz w' F' m' (CP e H) (Fg e fz)∧Rep w' F' m' (CP e H) v u
def AIT(P:Program)(op:Op)(ty:TypeId)(ρ:Operand→AV)(H:List Ob)(fz:List Bool)(v:AV)(e:Eff):Prop:=
 ∀ (w:World) (F:Nat→Prop) (m:Mp) (a:Act) (o:Oper) (next:Act→World→Prop) (Q:Exit→Act→World→Prop),o.op=op→o.type=ty→HI w F m H fz→(∀ x,Rep w F m H (ρ x) (a.eval x)) →
  (∀ u w' F' m',Ap w F m H fz w' F' m' (CP e H) (Fg e fz)→Rep w' F' m' (CP e H) v u→next (a.put o.dst u) w')→o.wp P a w next Q
section
variable {P:Program} {op:Op} {ty:TypeId} {ρ:Operand→AV} {H:List Ob} {fz:List Bool} {v:AV} {e:Eff}
theorem A2(h:∀ (w:World) (F:Nat→Prop) (m:Mp) (ρc:Operand→Value) (o:Oper),o.op=op→o.type=ty→HI w F m H fz→(∀ x,Rep w F m H (ρ x) (ρc x)) →
  ∃ u w' F' m',(execOp ρc o).run P w = .ok (.value u) w'∧Ap w F m H fz w' F' m' (CP e H) (Fg e fz)∧Rep w' F' m' (CP e H) v u):AIT P op ty ρ H fz v e:=by
 intro w F m a o next Q ho ht hi hr hn
 obtain⟨u,w',F',m',h1,h2,h3⟩:=h w F m a.eval o ho ht hi hr
 unfold Oper.wp
 rw[h1]
 exact hn u w' F' m' h2 h3
theorem Dn(h:∀ (w:World) (F:Nat→Prop) (m:Mp) (ρc:Operand→Value) (o:Oper),o.op=op→o.type=ty→HI w F m H fz→(∀ x,Rep w F m H (ρ x) (ρc x)) →
  ∃ w' F' m',(execOp ρc o).run P w = .ok .skip w'∧Ap w F m H fz w' F' m' (CP e H) (Fg e fz)):AIT P op ty ρ H fz .junk e:=by
 intro w F m a o next Q ho ht hi hr hn
 obtain⟨w',F',m',h1,h2⟩:=h w F m a.eval o ho ht hi hr
 unfold Oper.wp
 rw[h1]
 exact hn undef w' F' m' h2 (by unfold Rep;trivial)
theorem AS(h:∀ (w:World) (F:Nat→Prop) (m:Mp) (ρc:Operand→Value) (o:Oper),o.op=op→o.type=ty→HI w F m H fz→(∀ x,Rep w F m H (ρ x) (ρc x)) →
  ∃ u,(execOp ρc o).run P w = .ok (.value u) w∧Rep w F m H v u):AIT P op ty ρ H fz v {}:=
 A2 fun w F m ρc o ho ht hi hr=>let ⟨u,h1,h2⟩:=h w F m ρc o ho ht hi hr;⟨u,w,F,m,h1,Ap.refl hi,h2⟩
end
def Claim(P:Program)(E:Env)(o:Op):Prop:=
 ∀ (R:Type) (ty:TypeId) (ρ:Operand→AV) (H:List Ob) (fz:List Bool) (slot:Nat) (k:AV→Eff→Option R) (r:R),evalOp P E R o ty ρ H fz slot k=some r →
  ∃ v e,k v e=some r∧(∀ R' (k':AV→Eff→Option R'),evalOp P E R' o ty ρ H fz slot k'=k' v e)∧AIT P o ty ρ H fz v e
section
variable {P:Program} {E:Env}
theorem ARb(x:Operand):Claim P E (.move x):=by
 intro R ty ρ H fz slot k r h
 simp only[evalOp]at h
 split at h
 ·rename_i hx
  refine⟨_,_,h,fun R' k'=>by simp[evalOp,hx],AS fun w F m ρc o ho ht hi hr=>⟨ρc x,by simp[execOp,ho],?_⟩⟩
  have:=hr x
  rw[hx]at this
  unfold Rep at this
  unfold AZN
  split<;>(unfold Rep;exact this)
 ·rename_i hx
  refine⟨_,_,h,fun R' k' => ?_,AS fun w F m ρc o ho ht hi hr=>⟨ρc x,by simp[execOp,ho],hr x⟩⟩
  simp only[evalOp]
theorem AIA(x:Operand):Claim P E (.assign x):=by
 intro R ty ρ H fz slot k r h
 simp only[evalOp]at h
 split at h
 ·rename_i hx
  refine⟨_,_,h,fun R' k'=>by simp[evalOp,hx],AS fun w F m ρc o ho ht hi hr=>⟨ρc x,by simp[execOp,ho],?_⟩⟩
  have:=hr x
  rw[hx]at this
  unfold Rep at this
  unfold AZN
  split<;>(unfold Rep;exact this)
 ·rename_i hx
  refine⟨_,_,h,fun R' k' => ?_,AS fun w F m ρc o ho ht hi hr=>⟨ρc x,by simp[execOp,ho],hr x⟩⟩
  simp only[evalOp]
theorem Cl{w:World}{F:Nat→Prop}{m:Mp}{H:List Ob}{b:Bool}{v:Value}(h:Rep w F m H (.data .bool b) v):v = .bool b:=by
 unfold Rep Bf at h
 have h:Dat w F .bool b [v]:=h
 simpa [Dat]using h
theorem A8{w:World}{F:Nat→Prop}{m:Mp}{H:List Ob}{k:IntKind}{n:Int}{v:Value}(h:Rep w F m H (.data (.int k) n) v):v = .int k n:=by
 unfold Rep Bf at h
 have h:Dat w F (.int k) n [v]:=h
 simpa [Dat]using h
theorem BV{w:World}{F:Nat→Prop}{m:Mp}{H:List Ob}(b:Bool):Rep w F m H (.data .bool b) (.bool b):=by
 unfold Rep Bf;exact rfl
theorem Ay{w:World}{F:Nat→Prop}{m:Mp}{H:List Ob}(k:IntKind)(n:Int):Rep w F m H (.data (.int k) n) (.int k n):=by
 unfold Rep Bf;exact rfl
theorem ARa(c a b:Operand):Claim P E (.pick c a b):=by
 intro R ty ρ H fz slot k r h
 simp only[evalOp]at h
 split at h
 ·rename_i hx
  refine⟨_,_,h,fun R' k'=>by simp[evalOp,hx],AS fun w F m ρc o ho ht hi hr=>⟨ρc a,?_,hr a⟩⟩
  have:=Cl (hx▸hr c)
  simp[execOp,ho,this,asBool]
 ·rename_i hx
  refine⟨_,_,h,fun R' k'=>by simp[evalOp,hx],AS fun w F m ρc o ho ht hi hr=>⟨ρc b,?_,hr b⟩⟩
  have:=Cl (hx▸hr c)
  simp[execOp,ho,this,asBool]
 ·cases h
theorem ALn{T:TypeId}{n:Nat}(h:AQY P T=some n):∃ i z,P.info? T=some i∧i.zero=some z∧(∀ u∈z.cells.toList,u.oneCell'=true)∧n=z.cells.size:=by
 unfold AQY at h
 split at h
 ·rename_i i hi
  split at h
  ·rename_i z hz
   split at h
   ·rename_i ha
    cases h
    exact⟨i,z,hi,hz,AfE.1 ha,rfl⟩
   ·cases h
  ·cases h
 ·cases h
theorem AMt(T:TypeId):Claim P E (.alloc T):=by
 intro R ty ρ H fz slot k r h
 simp only[evalOp]at h
 split at h
 ·rename_i t cs hz
  split at h
  ·rename_i hf
   obtain⟨_,rfl,i,z,hi0,hz0,hok,hsz,_⟩:=Bn hz
   split at h
   ·rename_i n e ha
    refine⟨_,_,h,fun R' k'=>by simp[evalOp,hz,hf,ha],A2 fun w F m ρc o ho ht hi hr => ?_⟩
    have⟨et,hn,hm4,he⟩:t = .arr n e∧0<n∧n≤4294967296∧0<e.size:=by
     unfold AdL at ha
     split at ha
     ·split at ha
      ·rename_i hc
       cases ha
       simp only[Aet,Aer,Nat.ble_eq]at hc
       exact⟨rfl,hc.1,hc.2.1,hc.2.2⟩
      ·cases ha
     ·cases ha
    subst et
    have hrun:(execOp ρc o).run P w = .ok (.value (.pointer (some ⟨w.heap.size,0,none⟩))) (w.alloc (.cells z.cells T)):=by
     simp[execOp,ho,Instr.alloc,BX hi0 hz0,newVar,newRow]
    have hzd:Dat w F (.arr n e) (List.replicate n e.zero) z.cells.toList:=Ba (w:=w) (F:=F) (.arr n e) _ hok
    have hzl:=Dat.length (.arr n e) hzd
    have hg:=Ap.new (w':=w.alloc (.cells z.cells T)) hi hf (ob:=.arr T e (List.replicate n e.zero)) trivial (some (w.heap.size,n)) rfl rfl rfl (by simp) (fun b hb=>Below.heap_alloc w _ b hb)
     (fun b c h=>by cases h;exact Aez _)
     (fun hmono=>⟨he,z.cells,z.cells.toList,heap_alloc_new w _,by rw[Afu];exact Aez _,by simp only[maxLen];omega,by rw[← Ae7,hzl];rfl,
      BK (fun x _ cs hx=>hx.mono (fun b hb=>Below.heap_alloc w _ _ (hi.lt b hb)) (fun _ h=>h) e) hzd.2,AgD⟩)
    refine⟨.pointer (some ⟨w.heap.size,0,none⟩),w.alloc (.cells z.cells T),F,_,hrun,hg,?_⟩
    unfold Rep
    have hlt:=Al (BL hf).1
    rw[show CP { objs:=[(slot,.arr T e (Dy n e.zero))] } H=H.set slot (.arr T e (List.replicate n e.zero))from rfl,Au hlt,Aq]
    exact⟨Afu,_,rfl,rfl⟩
   rename_i ha
   refine⟨_,_,h,fun R' k'=>by simp[evalOp,hz,hf,ha],A2 fun w F m ρc o ho ht hi hr => ?_⟩
   have hrun:(execOp ρc o).run P w = .ok (.value (.pointer (some ⟨w.heap.size,0,none⟩))) (w.alloc (.cells z.cells T)):=by
    simp[execOp,ho,Instr.alloc,BX hi0 hz0,newVar,newRow]
   have hg:=Ap.new (w':=w.alloc (.cells z.cells T)) hi hf (ob:=.box (zeroCells t)) trivial (some (w.heap.size,0)) rfl rfl rfl (by simp) (fun b hb=>Below.heap_alloc w _ b hb)
    (fun b c h=>by cases h;exact Aez _)
    (fun _=>⟨w.heap.size,0,z.cells,T,rfl,heap_alloc_new w _,KB _ _ hok,OC _ _ hok⟩)
   refine⟨_,_,F,_,hrun,hg,?_⟩
   unfold Rep
   have hlt:=Al (BL hf).1
   rw[show CP { objs:=[(slot,.box (zeroCells t))] } H=H.set slot (.box (zeroCells t))from rfl,Au hlt,Aq]
   exact⟨_,_,rfl,rfl⟩
  ·cases h
 ·rename_i hz
  split at h
  ·rename_i n hj
   split at h
   ·rename_i hf
    obtain⟨i,z,hi0,hz0,hone,rfl⟩:=ALn hj
    refine⟨_,_,h,fun R' k'=>by simp[evalOp,hz,hj,hf],A2 fun w F m ρc o ho ht hi hr => ?_⟩
    have hrun:(execOp ρc o).run P w = .ok (.value (.pointer (some ⟨w.heap.size,0,none⟩))) (w.alloc (.cells z.cells T)):=by
     simp[execOp,ho,Instr.alloc,BX hi0 hz0,newVar,newRow]
    have hg:=Ap.new (w':=w.alloc (.cells z.cells T)) hi hf (ob:=.box (List.replicate z.cells.size .junk)) trivial (some (w.heap.size,0)) rfl rfl rfl (by simp) (fun b hb=>Below.heap_alloc w _ b hb)
     (fun b c h=>by cases h;exact Aez _)
     (fun _=>⟨w.heap.size,0,z.cells,T,rfl,heap_alloc_new w _,DM (by simp) (fun i c v hc _=>by
      rw[Agb (Ae5 hc)];unfold Rep;trivial),hone⟩)
    refine⟨_,_,F,_,hrun,hg,?_⟩
    unfold Rep
    have hlt:=Al (BL hf).1
    rw[show CP { objs:=[(slot,.box (List.replicate z.cells.size .junk))] } H=H.set slot (.box (List.replicate z.cells.size .junk))from rfl,Au hlt,Aq]
    exact⟨_,_,rfl,rfl⟩
   ·cases h
  ·cases h
theorem AWp(T:TypeId)(x:Operand):Claim P E (.box T x):=by
 intro R ty ρ H fz slot k r h
 simp only[evalOp]at h
 split at h
 ·rename_i n hs
  split at h
  ·rename_i vs hv
   split at h
   ·rename_i hd
    split at h
    ·rename_i hf
     refine⟨_,_,h,fun R' k'=>by simp[evalOp,hs,hv,hd,hf],A2 fun w F m ρc o ho ht hi hr => ?_⟩
     have hrun:(execOp ρc o).run P w = .ok (.value (.pointer (some ⟨w.heap.size,0,none⟩))) (w.alloc (.cells (ρc x).cells T)):=by
      simp[execOp,ho,Instr.box,newVar,newRow]
     have hrx:=cells?_ok hv (hr x)
     have h1:=cells?_one hv (hr x)
     have hg:=Ap.new (w':=w.alloc (.cells (ρc x).cells T)) hi hf (ob:=.box vs) trivial (some (w.heap.size,0)) rfl rfl rfl (by simp) (fun b hb=>Below.heap_alloc w _ b hb)
      (fun b c h=>by cases h;exact Aez _)
      (fun hmono=>⟨w.heap.size,0,(ρc x).cells,T,rfl,heap_alloc_new w _,DM (Ar hrx) fun i c v hc hv=>by
        obtain⟨v',hv',hr'⟩:=CN hrx hc
        rw[hv]at hv';cases hv'
        exact hmono hr',h1⟩)
     refine⟨_,_,F,_,hrun,hg,?_⟩
     unfold Rep
     have hlt:=Al (BL hf).1
     rw[show CP { objs:=[(slot,.box vs)] } H=H.set slot (.box vs)from rfl,Au hlt,Aq]
     exact⟨_,_,rfl,rfl⟩
    ·cases h
   ·cases h
  ·cases h
 ·cases h
theorem VR(off:Nat):∀ (l:List Value) (n:Nat) (us:Array Value),off+n+l.length≤us.size →
  ((l.zipIdx n).foldl (fun cs (p:Value×Nat)=>cs.setIfInBounds (off+p.2) p.1) us).toList=us.toList.take (off+n)++l++us.toList.drop (off+n+l.length):=by
 intro l
 induction l with
 |nil=>intro n us _;simp
 |cons v l ih=>
  intro n us h
  simp only[Aex]at h
  simp only[List.zipIdx_cons,Afj]
  rw[ih (n+1) _ (by simp;omega)]
  have hlt:off+n<us.toList.length:=by simp;omega
  rw[Array.toList_setIfInBounds,List.set_eq_take_append_cons_drop,Ae6 hlt]
  have ht:(us.toList.take (off+n)).length=off+n:=by rw[Ae8];omega
  have e1:(us.toList.take (off+n)++v::us.toList.drop (off+n+1)).take (off+(n+1))=us.toList.take (off+n)++[v]:=by
   rw[Agp,Afg (by omega),ht,show off+(n+1)-(off+n)=1 from by omega];rfl
  have e2:(us.toList.take (off+n)++v::us.toList.drop (off+n+1)).drop (off+(n+1)+l.length)=us.toList.drop (off+n+(l.length+1)):=by
   rw[Ahw,Af0 (by omega),ht,AfQ,show off+(n+1)+l.length-(off+n)=l.length+1 from by omega,List.drop_succ_cons,Agf]
   congr 1;omega
  rw[e1,e2];simp
theorem AHn{w:World}{F:Nat→Prop}{m:Mp}{H:List Ob}{ρ:Operand→AV}{ρc:Operand→Value}(hr:∀ x,Rep w F m H (ρ x) (ρc x)){pl pl':Nat→Option (Nat×Nat)}(hpl:∀ i p,pl i=some p→pl' i=some p):
  ∀ (ps:List (Nat×Operand)) {cs out:List AV} {us:Array Value},EF pl (ps.map fun p=>(p.1,ρ p.2)) cs=some out→Aa w F m H cs us.toList→(∀ x∈us.toList,x.oneCell'=true) →
   ∃ us':Array Value,Instr.fill pl' us (ps.map fun p=>(p.1,ρc p.2))=some us'∧Aa w F m H out us'.toList∧∀ x∈us'.toList,x.oneCell'=true:=by
 intro ps
 induction ps with
 |nil=>
  intro cs out us h h1 h2
  simp only[Agm,EF,Aep]at h;subst h
  exact⟨us,rfl,h1,h2⟩
 |cons p ps ih=>
  intro cs out us h h1 h2
  obtain⟨i,x⟩:=p
  simp only[AfP,EF]at h
  split at h
  ·cases h
  ·rename_i off size hp
   split at h
   ·cases h
   ·rename_i vs hv
    split at h
    ·cases h
    ·rename_i hd
     split at h
     ·cases h
     ·rename_i cs1 hc
      simp only[Aer]at hd
      have hrx:=cells?_ok hv (hr x)
      have h1x:=cells?_one hv (hr x)
      obtain⟨hle,hr1⟩:=I7 hc h1 hrx
      have hlen:=Ar hrx
      have hlen2:=Ar h1
      have hsz:(ρc x).cells.size=size:=by rw[← Ae7,hlen,hd]
      have hfold:((ρc x).cells.zipIdx.foldl (fun cs (c,j)=>cs.setIfInBounds (off+j) c) us).toList=us.toList.take off++(ρc x).cells.toList++us.toList.drop (off+vs.length):=by
       have:=VR off (ρc x).cells.toList 0 us (by simp only[Ae7]at hlen2 hlen ⊢;omega)
       rw[← Array.foldl_toList,Array.toList_zipIdx,this]
       rw[AgN,hlen]
      obtain⟨us',e1,e2,e3⟩:=ih (us:=(ρc x).cells.zipIdx.foldl (fun cs (c,j)=>cs.setIfInBounds (off+j) c) us) h (by rw[hfold];exact hr1) (by
       rw[hfold]
       intro y hy
       simp only[Aeu]at hy
       rcases hy with(hy|hy)|hy
       ·exact h2 y (Age hy)
       ·exact h1x y hy
       ·exact h2 y (AgO hy))
      refine⟨us',?_,e2,e3⟩
      simp only[AfP,Instr.fill,hpl _ _ hp]
      rw[Ae3 (by
       simp only[Ae7]at hlen2
       simp[hsz];omega)]
      exact e1
end
end Go.Pev
end
section
namespace Go.Pev
open Go.RowKit
section
variable {P:Program}
theorem AND{w w':World}{F F':Nat→Prop}{m m':Mp}{H H':List Ob}(h:∀ {a:AV} {v:Value},Rep w F m H a v→Rep w' F' m' H' a v){cs:List AV}{us:List Value}(hr:Aa w F m H cs us):Aa w' F' m' H' cs us:=by
 refine DM (Ar hr) fun i c v hc hv => ?_
 obtain⟨v',hv',hr'⟩:=CN hr hc
 rw[hv]at hv';cases hv'
 exact h hr'
theorem AD1{H:List Ob}{fz:List Bool}{id:Nat}{T:TypeId}{tgt:Nat}{is:List Int}(h:H[id]? = some (.prs T tgt is)):owned H fz id:=by simp only[owned,Bq];rw[h];trivial
theorem AMI{H:List Ob}{fz:List Bool}{slot id:Nat}{T:TypeId}{tgt:Nat}{is:List Int}(hf:At H fz slot=true)(ho:H[id]? = some (.prs T tgt is)):slot≠id:=by
 rintro rfl
 rw[(BL hf).1]at ho;cases ho
theorem VZ{T e:TypeId}(h:cellAt P T=some e):P.underlying T=some (.slice e)∧∃ i z,P.info? e=some i∧i.zero=some z∧i.size=1∧z.cells.size=1∧i.bytes≤1024:=by
 unfold cellAt at h
 split at h
 ·rename_i e' hu
  split at h
  ·rename_i i hi
   split at h
   ·rename_i z hz
    split at h
    ·rename_i hd
     simp only[Aep]at h
     subst h
     simp only[Aet,Aer]at hd
     exact⟨hu,i,z,hi,hz,hd.1,hd.2.1,hd.2.2⟩
    ·cases h
   ·cases h
  ·cases h
 ·cases h
theorem ACx{w:World}{F:Nat→Prop}{m:Mp}{H:List Ob}{fz:List Bool}(hi:HI w F m H fz){slot:Nat}(hf:At H fz slot=true)(T:TypeId)(tgt:Nat)(a:Option Addr):
  ∃ m',Ap w F m H fz w F m' (H.set slot (.prs T tgt [])) fz∧Rep w F m' (H.set slot (.prs T tgt [])) (.own slot) (.slice a 0 0):=by
 have hg:=Ap.new (w':=w) hi hf (ob:=.prs T tgt []) trivial none rfl rfl rfl (Aez _) (fun _ _=>rfl) (fun b c h=>by cases h) (fun _=>(rfl:([]:List Int)=[]))
 refine⟨_,hg,?_⟩
 unfold Rep
 have hlt:=Al (BL hf).1
 rw[Au hlt,Aq]
 exact⟨a,rfl⟩
theorem Qb{w:World}{F:Nat→Prop}{m:Mp}{H:List Ob}{fz:List Bool}(hi:HI w F m H fz){slot:Nat}(hf:At H fz slot=true){T:TypeId}{tgt:Nat}{is:List Int}{vs:Array Value}{cap:Nat}
  {w':World} (hb:w'.heap[w.heap.size]? = some (.cells vs T (0,0))) (h1:w'.os=w.os) (h2:w'.tape=w.tape) (h3:w'.output=w.output) (hsz:w.heap.size≤w'.heap.size) (hk:∀ b,b<w.heap.size→w'.heap[b]? = w.heap[b]?)
  (hcap:is.length≤cap) (hmax:cap≤maxLen) (hvs:vs.size=cap) {us:List Value} (hr:Aa w F m H (FF tgt is) us) (hone:∀ u∈us,u.oneCell'=true) (htake:vs.toList.take us.length=us) :
  ∃ m',Ap w F m H fz w' F m' (H.set slot (.prs T tgt is)) fz∧Rep w' F m' (H.set slot (.prs T tgt is)) (.own slot) (.slice (some ⟨w.heap.size,0,none⟩) is.length cap):=by
 have hg:=Ap.new (w':=w') hi hf (ob:=.prs T tgt is) trivial (some (w.heap.size,cap)) h1 h2 h3 hsz hk (fun b c h=>by cases h;exact Aez _)
  (fun hmono=>⟨vs,us,hb,hcap,hmax,hvs,AND hmono hr,hone,htake⟩)
 refine⟨_,hg,?_⟩
 unfold Rep
 have hlt:=Al (BL hf).1
 rw[Au hlt,Aq]
 rfl
theorem Yp(tgt:Nat)(is:List Int):(FF tgt is).length=is.length:=by simp[FF]
theorem AYa(tgt:Nat)(is js:List Int):FF tgt (is++js)=FF tgt is++FF tgt js:=by simp[FF]
end
end Go.Pev
end
section
namespace Go.Pev
open Go.RowKit
section
variable {w w':World} {F:Nat→Prop} {m:Mp} {H:List Ob} {fz:List Bool}
theorem CR{α:Type}{xs:List α}{k:Nat}{y:α}(h:xs[k]? = some y):k<xs.length:=by
 rcases Afa k xs.length with h'|h'
 ·exact h'
 ·rw[AfL h']at h;cases h
theorem Jm{id k:Nat}{T:RK}{e:TypeId}{t:Ty}{xs:List (List t.den)}{ver:Nat}{out:Option Nat}(ho:H[id]? = some (.rows T e t xs ver out))(hun:fz.getD id false=false)(hk:k<List.length (α:=List t.den) xs):owned H fz (.r id k):=by
 simp only[owned];rw[ho];exact⟨hk,hun⟩
theorem Zm{id:Nat}{T:RK}{e:TypeId}{t:Ty}{xs:List (List t.den)}{ver:Nat}{out:Option Nat}(ho:H[id]? = some (.rows T e t xs ver out))(hun:fz.getD id false=false):owned H fz id:=by
 simp only[owned,Bq];rw[ho];exact hun
def ANM(m:Mp)(x:Ix)(l:Option (Nat×Nat)):Mp:=fun y=>if y=x then l else m y
theorem G1(m:Mp)(x:Ix)(l:Option (Nat×Nat)):ANM m x l x=l:=by simp[ANM]
theorem Bg{m:Mp}{x y:Ix}{l:Option (Nat×Nat)}(h:y≠x):ANM m x l y=m y:=by simp[ANM,h]
theorem Ap.AeU(hi:HI w F m H fz){slot:Nat}(hs:At H fz slot=true){T:RK}{e:TypeId}{t:Ty}{n:Nat}(l:Option (Nat×Nat))
  (h1:w'.os=w.os) (h2:w'.tape=w.tape) (h3:w'.output=w.output) (hsz:w.heap.size≤w'.heap.size) (hb:∀ b,b<w.heap.size→w'.heap[b]? = w.heap[b]?)
  (hl:∀ b c,l=some (b,c)→w.heap.size≤b) (hpos:0<t.size)
  (hob:ObI w' F m H (.rows T e t (List.replicate n ([]:List t.den)) 0 none) l) (hhd:∀ k,k<n→∃ b cap a,l=some (b,cap)∧II w' T b k (.slice a 0 0)) :
  Ap w F m H fz w' F (Ni m slot l fun _=>none) (H.set slot (.rows T e t (List.replicate n ([]:List t.den)) 0 none)) fz:=by
 obtain⟨hs1,hs2⟩:=BL hs
 have hlt:=Al hs1
 have hcell:∀ b,F b→w'.heap[b]? = w.heap[b]? := fun b hF=>hb b (hi.lt b hF)
 have hgs:(H.set slot (.rows T e t (List.replicate n ([]:List t.den)) 0 none))[slot]? = some (.rows T e t (List.replicate n ([]:List t.den)) 0 none):=Au hlt
 have hcomp:CH H (H.set slot (.rows T e t (List.replicate n ([]:List t.den)) 0 none)) m (Ni m slot l fun _=>none):=by
  intro i o hio hf
  have hne:i≠slot:=by rintro rfl;rw[hs1]at hio;cases hio;exact hf rfl
  rcases CH.refl H m i o hio hf with h|⟨hd,o',h4,h5,_⟩
  ·exact .inl (by rw[AZ hne];exact h)
  ·exact .inr ⟨hd,o',by rw[AZ hne];exact h4,h5,Gi hne,fun _ _ k=>Gi hne⟩
 have hown:∀ x:Ix,owned (H.set slot (.rows T e t (List.replicate n ([]:List t.den)) 0 none)) fz x→(x.id≠slot∧owned H fz x)∨x = .o slot∨∃ k,x = .r slot k:=fun x hx=>by
  by_cases hid:x.id=slot
  ·cases x with
   |o i=>exact .inr (.inl (Af5 Ix.o hid))
   |r i k=>have hid:i=slot:=hid;subst hid;exact .inr (.inr ⟨k,rfl⟩)
  ·exact .inl ⟨hid,(CW (AZ hid)).1 hx⟩
 have src:∀ (x:Ix) (b c:Nat),owned (H.set slot (.rows T e t (List.replicate n ([]:List t.den)) 0 none)) fz x→Ni m slot l (fun _=>none) x=some (b,c)→(x.id≠slot∧owned H fz x∧m x=some (b,c))∨(x = .o slot∧l=some (b,c)):=by
  intro x b c hx hm
  rcases hown x hx with⟨h,h'⟩|rfl|⟨k,rfl⟩
  ·rw[Gi h]at hm;exact .inl ⟨h,h',hm⟩
  ·rw[KC]at hm;exact .inr ⟨rfl,hm⟩
  ·rw[AE5]at hm;cases hm
 refine⟨⟨h1,h2,h3,hsz,fun b h _=>hb b h,fun _ h=>h,fun _ h=>.inl h,?_,hcomp⟩,⟨?_,?_,?_,?_,?_,?_,fun b h=>Af6 (hi.lt b h) hsz,hi.glo.mono hcell (fun _ h=>h),by simpa using hi.len⟩⟩
 ·intro x b c hx hm
  rcases src x b c hx hm with⟨_,h,h'⟩|⟨_,h⟩
  ·exact .inl ⟨x,c,h,h'⟩
  ·exact .inr (hl b c h)
 ·intro i o hio
  by_cases hne:i=slot
  ·subst hne
   rw[hgs]at hio;cases hio
   rw[KC]
   exact hob
  ·rw[AZ hne]at hio
   rw[Gi (x:=.o i) hne]
   exact ObI.mono hcell (fun _ h=>h) hcomp (fun _ _ b c _ hlt=>hb b hlt) (hi.obj i o hio)
 ·intro i
  by_cases hne:i=slot
  ·subst hne
   intro T' e' t' xs ver out hio k ys hk
   rw[hgs]at hio;cases hio
   have hkn:k<n:=by simpa using CR hk
   have hys:ys=[]:=by
    rw[AhE,Ae6 hkn]at hk;exact(Afs hk).symm
   subst hys
   rw[AE5]
   obtain⟨b,cap,a,a1,a2⟩:=hhd k hkn
   exact⟨⟨hpos,rfl⟩,fun _=>⟨b,cap,_,KC.trans a1,a2,a,rfl⟩⟩
  ·exact B0.mono hcell (fun _ h=>h) hcomp (AZ hne) (fun x hx=>Gi (by rw[hx];exact hne)) (fun _ _ _ b c _ hlt=>hb b hlt) (hi.row i)
 ·intro i T' e' t' xs ver out hio hf x hx ht b c hm
  by_cases hne:i=slot
  ·subst hne;rw[hs2]at hf;cases hf
  ·rw[AZ hne]at hio
   rw[Gi (by rw[hx];exact hne)]at hm
   exact hi.rfz i T' e' t' xs ver out hio hf x hx ((CT (by rw[hx];exact AZ hne)).1 ht) b c hm
 ·intro x y b c b' c' hx hy hxy hmx hmy
  rcases src x b c hx hmx with⟨_,p1,p2⟩|⟨rfl,p2⟩
  ·rcases src y b' c' hy hmy with⟨_,q1,q2⟩|⟨rfl,q2⟩
   ·exact hi.sep x y b c b' c' p1 q1 hxy p2 q2
   ·have:=hi.Hg p1 p2;have:=hl b' c' q2;omega
  ·rcases src y b' c' hy hmy with⟨_,q1,q2⟩|⟨rfl,q2⟩
   ·have:=hi.Hg q1 q2;have:=hl b c p2;omega
   ·exact absurd rfl hxy
 ·intro x b c hx hm hF
  rcases src x b c hx hm with⟨_,p1,p2⟩|⟨_,p2⟩
  ·exact hi.off x b c p1 p2 hF
  ·have:=hl b c p2;have:=hi.lt b hF;omega
 ·intro i T' t' xs b c hio hf hm
  by_cases hne:i=slot
  ·subst hne;rw[hs2]at hf;cases hf
  ·rw[AZ hne]at hio
   rw[Gi (x:=.o i) hne]at hm
   exact hi.froz i T' t' xs b c hio hf hm
theorem Hdr.out{w:World}{K:RK}{n k:Nat}{b cap:Nat}(h:Hdr w K n none b cap)(hk:k<n):Hdr w K n (some k) b cap:=by
 cases K with
 |arr T=>exact h
 |map j ks=>obtain⟨ms,clock,e1,e2,e3,e4,_⟩:=h;exact⟨ms,clock,e1,e2,e3,.inl (e4.resolve_right fun h=>by cases h.1),fun k' h=>by cases h;exact hk⟩
theorem Ap.Ea(hi:HI w F m H fz){id k:Nat}{T:RK}{e:TypeId}{t:Ty}{xs xs1:List (List t.den)}{ver:Nat}(ho:H[id]? = some (.rows T e t xs ver none))(hun:fz.getD id false=false)(l:Option (Nat×Nat))
  {ys:List t.den} (hxk:xs1[k]? = some ys) (hxo:∀ k',k'≠k→xs1[k']? = xs[k']?) (hxa:T.IW=true→xs.length=xs1.length)
  (hhd:∀ b cap,m id=some (b,cap)→Hdr w T xs.length none b cap→Hdr w T xs1.length (some k) b cap) (hhn:T.IW=true→xs=[]→xs1=[])
  (hl:∀ b c,l=some (b,c)→(∃ c0,owned H fz (.r id k)∧m (.r id k)=some (b,c0))∨w.heap.size≤b)
  (h1:w'.os=w.os) (h2:w'.tape=w.tape) (h3:w'.output=w.output) (hsz:w.heap.size≤w'.heap.size) (hb:∀ b,b<w.heap.size→(∀ c,owned H fz (.r id k)→m (.r id k)≠some (b,c))→w'.heap[b]? = w.heap[b]?)
  (hob:(∀ {d:t.den} {cs:List Value},Dat w F t d cs→Dat w' F t d cs)→ObI w' F m H (.arr e t ys) l) :
  Ap w F m H fz w' F (ANM m (.r id k) l) (H.set id (.rows T e t xs1 (ver+1) (some k))) fz:=by
 have hlt:=Al ho
 have hgs:(H.set id (.rows T e t xs1 (ver+1) (some k)))[id]? = some (.rows T e t xs1 (ver+1) (some k)):=Au hlt
 have hcell:∀ b,F b→w'.heap[b]? = w.heap[b]? := fun b ha=>hb b (hi.lt _ ha) fun c hor hc=>hi.off _ _ c hor hc ha
 have hne:∀ {x:Ix},there H x→x≠.r id k→∀ b c,m x=some (b,c)→b<w.heap.size→w'.heap[b]? = w.heap[b]? := fun ht hx b c hm hlt'=>hb b hlt' fun c' hor hc'=>hi.neX hor hc' ht hm hx rfl
 have hcomp:CH H (H.set id (.rows T e t xs1 (ver+1) (some k))) m (ANM m (.r id k) l):=by
  intro i o hio hf
  by_cases hni:i=id
  ·subst hni
   rw[ho]at hio;cases hio
   refine .inr ⟨by simp,_,hgs,⟨rfl,hxa,.inl (Nat.lt_succ_self _)⟩,Bg (by simp),fun _ hv => ?_⟩
   simp only[PX]at hv;omega
  ·rcases CH.refl H m i o hio hf with h|⟨hd,o',h4,h5,_⟩
   ·exact .inl (by rw[AZ hni];exact h)
   ·exact .inr ⟨hd,o',by rw[AZ hni];exact h4,h5,Bg (by simp),fun _ _ k'=>Bg (by simp[hni])⟩
 have hdat:∀ {d:t.den} {cs:List Value},Dat w F t d cs→Dat w' F t d cs:=fun h=>h.mono hcell (fun _ h=>h) t
 have hlow:∀ k',k'≠k→k'<xs1.length→k'<xs.length:=fun k' hk hl'=>by
  have:=hxo k' hk
  rw[Aev hl']at this
  exact CR this.symm
 have hown:∀ x:Ix,x≠.r id k→owned (H.set id (.rows T e t xs1 (ver+1) (some k))) fz x→owned H fz x:=fun x hxk hx=>by
  by_cases hid:x.id=id
  ·cases x with
   |o i=>have hid:i=id:=hid;subst hid;exact Zm ho hun
   |r i k'=>
    have hid:i=id:=hid;subst hid
    simp only[owned]at hx
    rw[hgs]at hx
    exact Jm ho hun (hlow k' (by rintro rfl;exact hxk rfl) hx.1)
  ·exact(CW (AZ hid)).1 hx
 refine⟨⟨h1,h2,h3,hsz,fun b h hn=>hb b h fun c hor hc=>hn _ c hor hc,fun _ h=>h,fun _ h=>.inl h,?_,hcomp⟩,⟨?_,?_,?_,?_,?_,?_,fun b h=>Af6 (hi.lt b h) hsz,hi.glo.mono hcell (fun _ h=>h),by simpa using hi.len⟩⟩
 ·intro x b c hx hm
  by_cases hxk:x = .r id k
  ·subst hxk
   rw[G1]at hm
   rcases hl b c hm with⟨c0,hor,h⟩|h
   ·exact .inl ⟨_,c0,hor,h⟩
   ·exact .inr h
  ·rw[Bg hxk]at hm
   exact .inl ⟨x,c,hown x hxk hx,hm⟩
 ·intro i o hio
  rw[Bg (by simp)]
  by_cases hni:i=id
  ·subst hni
   rw[hgs]at hio;cases hio
   obtain⟨h4,h5⟩:=hi.obj i _ ho
   refine⟨h4,?_⟩
   cases hm:m i with
   |none=>rw[hm]at h5;exact⟨h5.1,hhn h5.1 h5.2⟩
   |some p=>
    obtain⟨b,cap⟩:=p
    rw[hm]at h5
    exact Hdr.mono (fun hl'=>hne (x:=.o i) ⟨_,ho,by simp,by simp⟩ (by simp) b cap hm hl') (hhd b cap hm h5)
  ·rw[AZ hni]at hio
   exact ObI.mono hcell (fun _ h=>h) hcomp (fun n1 n2 b c hm hlt'=>hne (x:=.o i) ⟨_,hio,n1,n2⟩ (by simp) b c hm hlt') (hi.obj i o hio)
 ·intro i
  by_cases hni:i=id
  ·subst hni
   intro T' e' t' xs' ver' out hio k' ys' hk'
   rw[hgs]at hio;cases hio
   by_cases hkk:k'=k
   ·subst hkk
    rw[hxk]at hk'
    cases hk'
    rw[G1]
    refine⟨?_,fun h=>absurd rfl h⟩
    obtain⟨q1,q2⟩:=hob hdat
    exact⟨q1,q2⟩
   ·rw[hxo k' hkk]at hk'
    have hlt':=CR hk'
    obtain⟨q1,q2⟩:=hi.row i T e t xs ver none ho k' ys' hk'
    have hth:there H (.r i k'):=by simp only[there];rw[ho];exact hlt'
    rw[Bg (by simp[hkk])]
    refine⟨ObI.mono hcell (fun _ h=>h) hcomp (fun _ _ b c hm hl'=>hne hth (by simp[hkk]) b c hm hl') q1,fun _ => ?_⟩
    obtain⟨b,cap,u,a1,a2,a3⟩:=q2 (by simp)
    exact⟨b,cap,u,(Bg (by simp)).trans a1,a2.mono (hne (x:=.o i) ⟨_,ho,by simp,by simp⟩ (by simp) b cap a1),a3⟩
  ·exact B0.mono hcell (fun _ h=>h) hcomp (AZ hni) (fun x hx=>Bg (by rintro rfl;exact hni hx.symm)) (fun x hx ht b c hm hl'=>hne ht (by rintro rfl;exact hni hx.symm) b c hm hl') (hi.row i)
 ·intro i T' e' t' xs' ver' out hio hf x hx ht b c hm
  by_cases hni:i=id
  ·subst hni;rw[hun]at hf;cases hf
  ·rw[AZ hni]at hio
   rw[Bg (by rintro rfl;exact hni hx.symm)]at hm
   exact hi.rfz i T' e' t' xs' ver' out hio hf x hx ((CT (by rw[hx];exact AZ hni)).1 ht) b c hm
 ·intro x y b c b' c' hx hy hxy hmx hmy
  by_cases hxk:x = .r id k
  ·subst hxk
   rw[G1]at hmx
   rw[Bg (AfV hxy)]at hmy
   rcases hl b c hmx with⟨c0,hor,h⟩|h
   ·exact hi.sep _ y b c0 b' c' hor (hown y (AfV hxy) hy) hxy h hmy
   ·have:=hi.Hg (hown y (AfV hxy) hy) hmy;omega
  ·rw[Bg hxk]at hmx
   by_cases hyk:y = .r id k
   ·subst hyk
    rw[G1]at hmy
    rcases hl b' c' hmy with⟨c0,hor,h⟩|h
    ·exact hi.sep x _ b c b' c0 (hown x hxk hx) hor hxy hmx h
    ·have:=hi.Hg (hown x hxk hx) hmx;omega
   ·rw[Bg hyk]at hmy
    exact hi.sep x y b c b' c' (hown x hxk hx) (hown y hyk hy) hxy hmx hmy
 ·intro x b c hx hm hF
  by_cases hxk:x = .r id k
  ·subst hxk
   rw[G1]at hm
   rcases hl b c hm with⟨c0,hor,h⟩|h
   ·exact hi.off _ b c0 hor h hF
   ·have:=hi.lt b hF;omega
  ·rw[Bg hxk]at hm
   exact hi.off x b c (hown x hxk hx) hm hF
 ·intro i T' t' xs' b c hio hf hm
  have hni:i≠id:=by rintro rfl;rw[hun]at hf;cases hf
  rw[AZ hni]at hio
  rw[Bg (by simp)]at hm
  exact hi.froz i T' t' xs' b c hio hf hm
theorem Ap.row(hi:HI w F m H fz){id k:Nat}{T:RK}{e:TypeId}{t:Ty}{xs:List (List t.den)}{ver:Nat}(ho:H[id]? = some (.rows T e t xs ver none))(hun:fz.getD id false=false)(hk:k<List.length (α:=List t.den) xs)(l:Option (Nat×Nat))
  (hl:∀ b c,l=some (b,c)→(∃ c0,m (.r id k)=some (b,c0))∨w.heap.size≤b)
  (h1:w'.os=w.os) (h2:w'.tape=w.tape) (h3:w'.output=w.output) (hsz:w.heap.size≤w'.heap.size) (hb:∀ b,b<w.heap.size→(∀ c,m (.r id k)≠some (b,c))→w'.heap[b]? = w.heap[b]?)
  {ys:List t.den} (hob:(∀ {d:t.den} {cs:List Value},Dat w F t d cs→Dat w' F t d cs)→ObI w' F m H (.arr e t ys) l) :
  Ap w F m H fz w' F (ANM m (.r id k) l) (H.set id (.rows T e t (xs.set k ys) (ver+1) (some k))) fz:=
 Ap.Ea hi ho hun l (Af8 hk) (fun k' h=>Afb (AfV h)) (fun _=>List.length_set.symm) (fun b cap _ h=>by rw[AhG];exact h.out hk) (fun _ h=>by rw[h];rfl)
  (fun b c h=>(hl b c h).imp (fun ⟨c0,h⟩=>⟨c0,Jm ho hun hk,h⟩) (fun h=>h)) h1 h2 h3 hsz (fun b h hn=>hb b h fun c hc=>hn c (Jm ho hun hk) hc) hob
theorem Ap.AeS(hi:HI w F m H fz){id k:Nat}{T T1:RK}{e:TypeId}{t:Ty}{xs:List (List t.den)}{ver:Nat}{ys:List t.den}(ho:H[id]? = some (.rows T e t xs ver (some k)))(hun:fz.getD id false=false)(hk:xs[k]? = some ys)(hTT:T.IW=T1.IW)
  {b cap:Nat} (hm:m id=some (b,cap)) {u:Value} (hu:A6 (some (.arr e t ys)) (m (.r id k)) u)
  (h1:w'.os=w.os) (h2:w'.tape=w.tape) (h3:w'.output=w.output) (hsz:w'.heap.size=w.heap.size) (hho:∀ k',k'≠b→w'.heap[k']? = w.heap[k']?)
  (hhd:Hdr w T xs.length (some k) b cap→Hdr w' T1 xs.length none b cap∧II w' T1 b k u) (hco:∀ k' v,k'≠k→II w T b k' v→II w' T1 b k' v) :
  Ap w F m H fz w' F m (H.set id (.rows T1 e t xs ver none)) fz:=by
 have hlt:=Al ho
 have hkl:=CR hk
 have hor:=Zm ho hun
 have hgs:(H.set id (.rows T1 e t xs ver none))[id]? = some (.rows T1 e t xs ver none):=Au hlt
 have hcell:∀ b,F b→w'.heap[b]? = w.heap[b]? := fun k' ha=>hho k' (by rintro h;exact hi.off _ b cap hor hm (h▸ha))
 have hne:∀ {x:Ix},there H x→x≠.o id→∀ b' c,m x=some (b',c)→w'.heap[b']? = w.heap[b']? := fun ht hx b' c hm'=>hho b' (hi.neX hor hm ht hm' hx)
 have hcomp:CH H (H.set id (.rows T1 e t xs ver none)) m m:=by
  intro i o hio hf
  by_cases hni:i=id
  ·subst hni
   rw[ho]at hio;cases hio
   exact .inr ⟨by simp,_,hgs,⟨hTT,fun _=>rfl,.inr ⟨rfl,rfl⟩⟩,rfl,fun _ _ _=>rfl⟩
  ·rcases CH.refl H m i o hio hf with h|⟨hd,o',h4,h5,_⟩
   ·exact .inl (by rw[AZ hni];exact h)
   ·exact .inr ⟨hd,o',by rw[AZ hni];exact h4,h5,rfl,fun _ _ _=>rfl⟩
 have hown:∀ x:Ix,owned (H.set id (.rows T1 e t xs ver none)) fz x→owned H fz x:=fun x hx=>by
  by_cases hid:x.id=id
  ·cases x with
   |o i=>have hid:i=id:=hid;subst hid;exact hor
   |r i k'=>
    have hid:i=id:=hid;subst hid
    simp only[owned]at hx
    rw[hgs]at hx
    exact Jm ho hun hx.1
  ·exact(CW (AZ hid)).1 hx
 obtain⟨hz0,hz1⟩:=hi.obj id _ ho
 rw[hm]at hz1
 obtain⟨hz2,hz3⟩:=hhd hz1
 refine⟨⟨h1,h2,h3,Ag2 hsz.symm,fun b' h hn=>hho b' (by rintro rfl;exact hn _ cap hor hm),fun _ h=>h,fun _ h=>.inl h,fun x b' c hx hm'=>.inl ⟨x,c,hown x hx,hm'⟩,hcomp⟩,⟨?_,?_,?_,?_,?_,?_,fun b' h=>by rw[hsz];exact hi.lt b' h,hi.glo.mono hcell (fun _ h=>h),by simpa using hi.len⟩⟩
 ·intro i o hio
  by_cases hni:i=id
  ·subst hni
   rw[hgs]at hio;cases hio
   refine⟨hz0,?_⟩
   rw[hm]
   exact hz2
  ·rw[AZ hni]at hio
   exact ObI.mono hcell (fun _ h=>h) hcomp (fun n1 n2 b' c hm' _=>hne (x:=.o i) ⟨_,hio,n1,n2⟩ (by simp[hni]) b' c hm') (hi.obj i o hio)
 ·intro i
  by_cases hni:i=id
  ·subst hni
   intro T' e' t' xs' ver' out hio k' ys' hk'
   rw[hgs]at hio;cases hio
   have hlt':=CR hk'
   obtain⟨q1,q2⟩:=hi.row i T e t xs ver (some k) ho k' ys' hk'
   have hth:there H (.r i k'):=by simp only[there];rw[ho];exact hlt'
   refine⟨ObI.mono hcell (fun _ h=>h) hcomp (fun _ _ b' c hm' _=>hne hth (by simp) b' c hm') q1,fun _ => ?_⟩
   by_cases hkk:k'=k
   ·subst hkk
    rw[hk]at hk';cases hk'
    exact⟨b,cap,u,hm,hz3,hu⟩
   ·obtain⟨b2,cap2,u2,a1,a2,a4⟩:=q2 (by simpa using AfV hkk)
    rw[hm]at a1;cases a1
    exact⟨b,cap,u2,hm,hco k' u2 hkk a2,a4⟩
  ·exact B0.mono hcell (fun _ h=>h) hcomp (AZ hni) (fun _ _=>rfl) (fun x hx ht b' c hm' _=>hne ht (by rintro rfl;exact hni hx.symm) b' c hm') (hi.row i)
 ·intro i T' e' t' xs' ver' out hio hf x hx ht b' c hm'
  by_cases hni:i=id
  ·subst hni;rw[hun]at hf;cases hf
  ·rw[AZ hni]at hio
   exact hi.rfz i T' e' t' xs' ver' out hio hf x hx ((CT (by rw[hx];exact AZ hni)).1 ht) b' c hm'
 ·exact fun x y b' c' b2 c2 hx hy=>hi.sep x y b' c' b2 c2 (hown x hx) (hown y hy)
 ·exact fun x b' c' hx=>hi.off x b' c' (hown x hx)
 ·intro i T' t' xs' b' c hio hf hm'
  have hni:i≠id:=by rintro rfl;rw[hun]at hf;cases hf
  rw[AZ hni]at hio
  exact hi.froz i T' t' xs' b' c hio hf hm'
theorem Ap.put(hi:HI w F m H fz){id k:Nat}{T e:TypeId}{t:Ty}{xs:List (List t.den)}{ver:Nat}{ys:List t.den}(ho:H[id]? = some (.rows (.arr T) e t xs ver (some k)))(hun:fz.getD id false=false)(hk:xs[k]? = some ys)
  {b cap:Nat} (hm:m id=some (b,cap)) {vs vs':Array Value} (hw:w.heap[b]? = some (.cells vs T (0,0))) {u:Value} (hu:A6 (some (.arr e t ys)) (m (.r id k)) u)
  (h1:w'.os=w.os) (h2:w'.tape=w.tape) (h3:w'.output=w.output) (hsz:w'.heap.size=w.heap.size) (hho:∀ k',k'≠b→w'.heap[k']? = w.heap[k']?) (hhb:w'.heap[b]? = some (.cells vs' T (0,0))) (hvs:vs'.toList=vs.toList.set k u) :
  Ap w F m H fz w' F m (H.set id (.rows (.arr T) e t xs ver none)) fz:=by
 have hvz:vs'.size=vs.size:=by rw[← Ae7,hvs,AhG,Ae7]
 refine Ap.AeS hi ho hun hk rfl hm hu h1 h2 h3 hsz hho ?_ ?_
 ·rintro⟨vs1,e1,e2,e3,e4,e5⟩
  rw[hw]at e1;cases e1
  refine⟨⟨_,hhb,e2,e3,hvz.trans e4,fun v hv => ?_⟩,_,hhb,?_⟩
  ·rw[hvs]at hv
   rcases List.mem_or_eq_of_mem_set hv with h|rfl
   ·exact e5 v h
   ·exact A6.one hu
  ·rw[hvs,Af8 (by rw[show vs.toList.length=cap from e4];exact Af6 (CR hk) e2)]
 ·rintro k' v hkk ⟨vs2,a2,a3⟩
  rw[hw]at a2;cases a2
  refine⟨_,hhb,?_⟩
  rw[hvs,Afb (AfV hkk)]
  exact a3
theorem AJw(hi:HI w F m H fz){id k:Nat}{T:RK}{e:TypeId}{t:Ty}{xs:List (List t.den)}{ver:Nat}(ho:H[id]? = some (.rows T e t xs ver none))(hk:k<List.length (α:=List t.den) xs):
  ∃ b cap u,m id=some (b,cap)∧II w T b k u∧Rep w F m H (.rowp id k ver) u:=by
 have hys:xs[k]? = some xs[k]:=Aev hk
 obtain⟨_,h2⟩:=hi.row id T e t xs ver none ho k _ hys
 obtain⟨b,cap,u,a1,a2,a4⟩:=h2 (by simp)
 refine⟨b,cap,u,a1,a2,?_⟩
 unfold Rep
 rw[ho]
 exact⟨A6.one a4,Aez _,fun _=>.inl ⟨_,hys,a4⟩⟩
end
end Go.Pev
end
section
namespace Go.Pev
open Go.RowKit
section
variable {P:Program} {E:Env}
theorem info_of_underlying{T:TypeId}{d:TypeDesc}(h:P.underlying T=some d):∃ i,P.info? T=some i:=by
 unfold Program.underlying at h
 split at h
 ·rename_i h1;exact⟨_,h1⟩
 ·rename_i h1;exact⟨_,h1⟩
 ·cases h
theorem WO{n:Nat}{T:TypeId}{t:Ty}(h:WQ P n T=some t):∃ d,P.underlying T=some d:=by
 cases n with
 |zero=>simp[WQ]at h
 |succ n=>
  simp only[WQ]at h
  split at h<;>first|exact⟨_,by assumption⟩|cases h
theorem mapM_some{α β:Type}{f:α→Option β}:∀ {l:List α} {ys:List β},l.mapM f=some ys→∀ x∈l,∃ y,f x=some y:=by
 intro l
 induction l with
 |nil=>intro ys _ x hx;cases hx
 |cons a l ih=>
  intro ys h x hx
  rw[List.mapM_cons]at h
  simp only[bind,AfX,pure]at h
  obtain⟨y,h1,ys',h2,_⟩:=h
  rcases Aew.1 hx with rfl|hx
  ·exact⟨y,h1⟩
  ·exact ih h2 x hx
theorem AMR{T:TypeId}{t:Ty}{fs:Array Field}(ht:AE7 P T=some t)(hu:P.underlying T=some (.struct fs)):∀ f∈fs.toList,∃ i,P.info? f.type=some i:=by
 have gen:∀ n,WQ P (n+1) T=some t→∃ ts,fs.toList.mapM (fun f=>WQ P n f.type)=some ts:=by
  intro n h
  simp only[WQ,hu,Ae4]at h
  exact⟨_,h.choose_spec.1⟩
 obtain⟨ts,h1⟩:=gen 11 ht
 intro f hf
 obtain⟨t',h2⟩:=mapM_some h1 f hf
 obtain⟨d,h3⟩:=WO h2
 exact info_of_underlying h3
theorem run_places(w:World):∀ (l:List Field),(∀ f∈l,∃ i,P.info? f.type=some i) →
  (l.mapM (fun f=>do pure (f.offset,← sizeOf f.type):Field→Sem (Nat×Nat))).run P w = .ok (l.map fun f=>(f.offset,(BI P f.type).getD 0)) w:=by
 intro l
 induction l with
 |nil=>intro _;simp[List.mapM_nil]
 |cons f l ih=>
  intro h
  obtain⟨i,hi⟩:=h f (by simp)
  rw[List.mapM_cons]
  have:=ih fun g hg=>h g (by simp[hg])
  simp only[Sem.run_bind,run_sizeOf hi,Result.andThen_ok,Sem.run_pure,this,AfP,BI,hi,Ag3,AfN]
theorem AO0{T:TypeId}{cs:List AV}{fs:Array Field}(h:AYX P T=some cs)(hu:P.underlying T=some (.struct fs)):
  ∃ i z,P.info? T=some i∧i.zero=some z∧(∀ u∈z.cells.toList,u.oneCell'=true)∧(∀ f∈fs.toList,∃ i,P.info? f.type=some i)∧cs=List.replicate z.cells.toList.length .junk:=by
 unfold AYX at h
 split at h
 ·rename_i i fs' hi hu'
  rw[hu]at hu'
  cases hu'
  split at h
  ·rename_i z hz
   split at h
   ·rename_i hok
    cases h
    rw[Aet,AfE,AfE]at hok
    refine⟨i,z,hi,hz,hok.1,fun f hf => ?_,by simp⟩
    have:=hok.2 f hf
    rw[AgE]at this
    exact this
   ·cases h
  ·cases h
 ·cases h
theorem AEk{w:World}{F:Nat→Prop}{m:Mp}{H:List Ob}:∀ vs:List Value,Aa w F m H (List.replicate vs.length .junk) vs
 |[]=>by simp[Aa]
 |v::vs=>by
  rw[Aex,List.replicate_succ]
  unfold Aa
  exact⟨v,vs,rfl,by unfold Rep;trivial,AEk vs⟩
theorem AMr(T:TypeId)(parts:Array (Nat×Operand)):Claim P E (.build T parts):=by
 intro R ty ρ H fz slot k r h
 simp only[evalOp]at h
 split at h
 ·rename_i t cs hz
  obtain⟨hty,rfl,i,z,hi0,hz0,hok,hsz,hza⟩:=Bn hz
  split at h
  ·rename_i fs hu
   split at h
   ·rename_i cs' hb
    refine⟨_,_,h,fun R' k'=>by simp only[evalOp,hz,hu,hb],AS fun w F m ρc o ho ht hi hr => ?_⟩
    have hpl:∀ (i:Nat) (p:Nat×Nat),(match fs[i]? with
      |some f=>(BI P (Field.type f)).map fun n=>(Field.offset f,n)
      |none=>none)=some p→(fs.map fun f=>(f.offset,(BI P f.type).getD 0))[i]? = some p:=by
     intro i p hp
     split at hp
     ·rename_i f hf
      simp only[Ae4]at hp
      obtain⟨n,h1,rfl⟩:=hp
      simp[hf,h1]
     ·cases hp
    obtain⟨us,h1,h2,h3⟩:=AHn hr hpl parts.toList hb (KB _ _ hok) (OC _ _ hok)
    refine⟨.agg us,?_,?_⟩
    ·have hp:=run_places (P:=P) w fs.toList (AMR hty hu)
     have h1':Instr.fill ((fs.map fun f=>(f.offset,(BI P f.type).getD 0))[·]?) z.cells (parts.map fun p=>(p.1,ρc p.2)).toList=some us:=by rw[AgF];exact h1
     simp only[execOp,ho,Instr.build,Sem.run_bind,BX hi0 hz0,Result.andThen_ok,run_underlying hu]
     rw[Ahf]
     simp only[Sem.run_map,hp,Result.andThen_ok]
     rw[show(List.map (fun f=>(f.offset,(BI P f.type).getD 0)) fs.toList).toArray=fs.map fun f=>(f.offset,(BI P f.type).getD 0)from by rw[← AgF,Agg]]
     rw[h1']
     rfl
    ·unfold Rep
     exact⟨us,rfl,h2,h3⟩
   ·cases h
  ·rename_i n e hu
   split at h
   ·rename_i sz hs
    split at h
    ·rename_i cs' hb
     obtain⟨ie,hie,rfl⟩:=BC hs
     refine⟨_,_,h,fun R' k'=>by simp only[evalOp,hz,hu,hs,hb],AS fun w F m ρc o ho ht hi hr => ?_⟩
     obtain⟨us,h1,h2,h3⟩:=AHn hr (fun i p h=>h) parts.toList hb (KB _ _ hok) (OC _ _ hok)
     refine⟨.agg us,?_,?_⟩
     ·have h1':Instr.fill (fun i=>some (i*ie.size,ie.size)) z.cells (parts.map fun p=>(p.1,ρc p.2)).toList=some us:=by rw[AgF];exact h1
      simp only[execOp,ho,Instr.build,Sem.run_bind,BX hi0 hz0,Result.andThen_ok,run_underlying hu,run_sizeOf hie,h1']
      rfl
     ·unfold Rep
      exact⟨us,rfl,h2,h3⟩
    ·cases h
   ·cases h
  ·cases h
 ·rename_i hz
  split at h
  ·rename_i cs fs hraw hu
   split at h
   ·rename_i cs' hb
    obtain⟨i,z,hi0,hz0,hone,hinf,rfl⟩:=AO0 hraw hu
    refine⟨_,_,h,fun R' k'=>by simp only[evalOp,hz,hraw,hu,hb],AS fun w F m ρc o ho ht hi hr => ?_⟩
    have hpl:∀ (i:Nat) (p:Nat×Nat),(match fs[i]? with
      |some f=>(BI P (Field.type f)).map fun n=>(Field.offset f,n)
      |none=>none)=some p→(fs.map fun f=>(f.offset,(BI P f.type).getD 0))[i]? = some p:=by
     intro i p hp
     split at hp
     ·rename_i f hf
      simp only[Ae4]at hp
      obtain⟨n,h1,rfl⟩:=hp
      simp[hf,h1]
     ·cases hp
    obtain⟨us,h1,h2,h3⟩:=AHn hr hpl parts.toList hb (AEk (w:=w) (F:=F) (m:=m) (H:=H) z.cells.toList) hone
    refine⟨.agg us,?_,?_⟩
    ·have hp:=run_places (P:=P) w fs.toList hinf
     have h1':Instr.fill ((fs.map fun f=>(f.offset,(BI P f.type).getD 0))[·]?) z.cells (parts.map fun p=>(p.1,ρc p.2)).toList=some us:=by rw[AgF];exact h1
     simp only[execOp,ho,Instr.build,Sem.run_bind,BX hi0 hz0,Result.andThen_ok,run_underlying hu]
     rw[Ahf]
     simp only[Sem.run_map,hp,Result.andThen_ok]
     rw[show(List.map (fun f=>(f.offset,(BI P f.type).getD 0)) fs.toList).toArray=fs.map fun f=>(f.offset,(BI P f.type).getD 0)from by rw[← AgF,Agg]]
     rw[h1']
     rfl
    ·unfold Rep
     exact⟨us,rfl,h2,h3⟩
   ·cases h
  ·cases h
theorem PJ{w:World}{F:Nat→Prop}{t:Ty}{x:t.den}{u:Value}(h:Bf w F t x u):Dat w F t x u.cells.toList:=by
 unfold Bf at h
 split at h
 ·obtain⟨vs,rfl,h⟩:=h;exact h
 ·have h1:=Dat.Gm t h u (by simp)
  rw[Ex h1];exact h
theorem AHo{w:World}{F:Nat→Prop}{m:Mp}{H:List Ob}{fz:List Bool}(hi:HI w F m H fz){ρ:Operand→AV}{ρc:Operand→Value}(hr:∀ x,Rep w F m H (ρ x) (ρc x)){t:Ty}:
  ∀ (ps:List (Nat×Operand)) {xs xs':List t.den} {fr fr':List Nat} {us:Array Value},DG H t (ps.map fun p=>(p.1,ρ p.2)) xs fr=some (xs',fr')→rows (Dat w (C4 F m H fr) t) xs us.toList →
   ∃ us':Array Value,Instr.fill (fun i=>some (i*t.size,t.size)) us (ps.map fun p=>(p.1,ρc p.2))=some us'∧rows (Dat w (C4 F m H fr') t) xs' us'.toList∧xs'.length=xs.length:=by
 intro ps
 induction ps with
 |nil=>
  intro xs xs' fr fr' us h hrw
  simp only[Agm,DG,Aep,AfJ]at h
  obtain⟨rfl,rfl⟩:=h
  exact⟨us,rfl,hrw,rfl⟩
 |cons p ps ih=>
  intro xs xs' fr fr' us h hrw
  obtain⟨i,o⟩:=p
  simp only[AfP,DG]at h
  split at h
  ·rename_i x f hx hd
   simp only[Aer]at hd
   have hk:=fun(x:t.den) cs (h:Dat w (C4 F m H (fr++f)) t x cs)=>Dat.length t h
   have hdx:Dat w (C4 F m H (fr++f)) t x (ρc o).cells.toList:=(PJ (C7 hi hx (hr o))).AaF (fun i hi=>by simp[hi])
   have hrw':rows (Dat w (C4 F m H (fr++f)) t) xs us.toList:=BK (fun x _ cs hx=>hx.AaF (fun i hi=>by simp[hi])) hrw
   have hlen:=A3 hk hrw'
   have hl2:=hk _ _ hdx
   have hle:i*t.size+t.size≤us.size:=by
    rw[← Ae7,hlen]
    have:(i+1)*t.size≤xs.length*t.size:=Afk _ hd
    rwa [Afp,AgV]at this
   have hfold:((ρc o).cells.zipIdx.foldl (fun cs (c,j)=>cs.setIfInBounds (i*t.size+j) c) us).toList=us.toList.take (i*t.size)++(ρc o).cells.toList++us.toList.drop (i*t.size+t.size):=by
    have:=VR (i*t.size) (ρc o).cells.toList 0 us (by rw[hl2];omega)
    rw[← Array.foldl_toList,Array.toList_zipIdx,this,AgN,hl2]
   obtain⟨us',e1,e2,e3⟩:=ih (us:=(ρc o).cells.zipIdx.foldl (fun cs (c,j)=>cs.setIfInBounds (i*t.size+j) c) us) h (by rw[hfold];exact AJt hk hrw' hd hdx)
   refine⟨us',?_,e2,by rw[e3,AhG]⟩
   simp only[AfP,Instr.fill]
   rw[Ae3 (by
    simp only[Ae7]at hl2
    simp[hl2];omega)]
   exact e1
  ·cases h
theorem Ec{w:World}{F:Nat→Prop}{t:Ty}{z:List Value}(hz:Dat w F t t.zero z)(n:Nat):rows (Dat w F t) (List.replicate n t.zero) (List.replicate n z).flatten:=by
 induction n with
 |zero=>rfl
 |succ n ih=>exact⟨z,_,by simp[List.replicate_succ],hz,ih⟩
theorem Cm(z:Array Value):∀ (n:Nat),((Array.range (n*z.size)).map (z[· % z.size]!)).toList=(List.replicate n z.toList).flatten:=by
 intro n
 rw[AgF,Array.toList_range]
 induction n with
 |zero=>simp
 |succ n ih=>
  rw[Afp,AgV,List.range_add,AgP,ih,List.replicate_succ']
  simp only[List.flatten_append,Agu,List.flatten_nil,Afx,List.append_cancel_left_eq,List.map_map]
  apply Ahx
  ·simp
  ·intro i h1 h2
   simp only[AgA,Afr]at h1
   simp[Nat.add_mod,Ahy h1,h1]
theorem Bs{T:TypeId}{e:TypeId}{t:Ty}(h:sliceAt P T=some (e,t)):P.underlying T=some (.slice e)∧AE7 P e=some t∧0<t.size:=by
 unfold sliceAt at h
 split at h
 ·rename_i e' hu
  split at h
  ·rename_i x hx
   split at h
   ·rename_i hd
    simp only[Aep,AfJ]at h
    obtain⟨rfl,rfl⟩:=h
    exact⟨hu,hx,by simpa using hd⟩
   ·cases h
  ·cases h
 ·cases h
theorem En{w:World}{F:Nat→Prop}{m:Mp}{H:List Ob}{fz:List Bool}(hi:HI w F m H fz){slot:Nat}(hf:At H fz slot=true){T:TypeId}{t:Ty}(ht:0<t.size){xs:List t.den}{vs:Array Value}{cap:Nat}
  {w':World} (hb:w'.heap[w.heap.size]? = some (.cells vs T (0,0))) (h1:w'.os=w.os) (h2:w'.tape=w.tape) (h3:w'.output=w.output) (hsz:w.heap.size≤w'.heap.size) (hk:∀ b,b<w.heap.size→w'.heap[b]? = w.heap[b]?)
  (hcap:xs.length≤cap) (hmax:cap≤maxLen) (hvs:vs.size=cap*t.size) {row:List Value} (hrow:rows (Dat w F t) xs row) (htake:vs.toList.take row.length=row) :
  ∃ m',Ap w F m H fz w' F m' (H.set slot (.arr T t xs)) fz∧Rep w' F m' (H.set slot (.arr T t xs)) (.own slot) (.slice (some ⟨w.heap.size,0,none⟩) xs.length cap):=by
 have hc:∀ b,F b→w'.heap[b]? = w.heap[b]? := fun b hF=>hk b (hi.lt b hF)
 have hg:=Ap.new (w':=w') hi hf (ob:=.arr T t xs) trivial (some (w.heap.size,cap)) h1 h2 h3 hsz hk (fun b c h=>by cases h;exact Aez _)
  (fun _=>⟨ht,vs,row,hb,hcap,hmax,hvs,BK (fun x _ cs hx=>hx.mono hc (fun _ h=>h) t) hrow,htake⟩)
 refine⟨_,hg,?_⟩
 unfold Rep
 have hlt:=Al (BL hf).1
 rw[Au hlt,Aq]
 rfl
theorem HU{w:World}{T e:TypeId}{len:Nat}{t':Ty}{parts:Array (Nat×Value)}{i:TypeInfo}{z:Value}{us:Array Value}(hu:P.underlying T=some (.slice e))(hi0:P.info? e=some i)(hz0:i.zero=some z)
 (hsz:i.size=t'.size) (hd:len*t'.size≤16777216)
 (e1':Instr.fill (fun i=>some (i*t'.size,t'.size)) ((Array.range (len*t'.size)).map (z.cells[· % z.cells.size]!)) parts.toList=some us):(Instr.buildSlice T len parts).run P w = .ok (.slice (some ⟨w.heap.size,0,none⟩) len len) (w.alloc (.cells us e)):=by
 unfold Instr.buildSlice
 simp only[Sem.run_bind,run_underlying hu,Result.andThen_ok,run_sizeOf hi0,hsz]
 rw[Ae3 (by omega)]
 by_cases h0:len*t'.size=0
 ·have e2:Instr.fill (fun i=>some (i*t'.size,t'.size)) #[] parts.toList=some us:=by
   rw[h0,Array.range_zero',Array.map_empty]at e1';exact e1'
  simp only[h0]
  simp[e2,newRow,Array.range]
 ·rw[Ae3 h0]
  simp[BX hi0 hz0,e1',newRow]
theorem TX(T:TypeId)(len:Nat)(parts:Array (Nat×Operand)):Claim P E (.buildSlice T len parts):=by
 intro R ty ρ H fz slot k r h
 simp only[evalOp]at h
 split at h
 ·rename_i e t hsl
  split at h
  ·rename_i zz hz
   split at h
   ·rename_i hd
    split at h
    ·rename_i xs fr hp
     split at h
     ·rename_i hf
      refine⟨_,_,h,fun R' k'=>by simp only[evalOp,hsl,hz,hd,hp,hf],A2 fun w F m ρc o ho ht hi hr => ?_⟩
      obtain⟨hu,hty,hpos⟩:=Bs hsl
      obtain⟨t',cs'⟩:=zz
      obtain⟨hty',hcs',i,z,hi0,hz0,hok,hsz,hza⟩:=Bn hz
      subst hcs'
      have:t'=t:=by rw[hty]at hty';exact(Afs hty').symm
      subst this
      simp only[Aer]at hd
      have hzd:=Ba (w:=w) (F:=F) t' _ hok
      have hzl:z.cells.size=t'.size:=by rw[← Ae7];exact Dat.length t' hzd
      have hr0:rows (Dat w (C4 F m H []) t') (List.replicate len t'.zero) ((Array.range (len*t'.size)).map (z.cells[· % z.cells.size]!)).toList:=by
       have:=Cm z.cells len
       rw[hzl]at this
       rw[hzl,this]
       exact Ec hzd.frz len
      obtain⟨us,e1,e2,e3⟩:=AHo hi hr parts.toList hp hr0
      have hgf:=Ap.freeze hi fr
      have hlen:=A3 (fun x cs (h:Dat w (C4 F m H fr) t' x cs)=>Dat.length t' h) e2
      have hxl:xs.length=len:=by rw[e3,Afu]
      have hbig:len≤16777216:=Afv (Nat.le_mul_of_pos_right len hpos) hd
      obtain⟨m',hg,hrep⟩:=En hgf.2 hf (w':=w.alloc (.cells us e)) hpos (heap_alloc_new w _) rfl rfl rfl (by simp) (fun b hb=>Below.heap_alloc w _ b hb) (cap:=len) (by omega) (by simp only[maxLen];omega)
       (by rw[← Ae7,hlen,hxl]) e2 (by rw[hlen,Afg (by omega)])
      refine⟨_,_,_,m',?_,hgf.trans hg,hrep⟩
      have e1':Instr.fill (fun i=>some (i*t'.size,t'.size)) ((Array.range (len*t'.size)).map (z.cells[· % z.cells.size]!)) (parts.map fun p=>(p.1,ρc p.2)).toList=some us:=by rw[AgF];exact e1
      rw[hxl]
      have:=HU (w:=w) hu hi0 hz0 hsz hd e1'
      simp[execOp,ho,this]
     ·cases h
    ·cases h
   ·cases h
  ·cases h
 ·rename_i hsl
  split at h
  ·rename_i e q hce hlen hps
   have hq:=hps
   rw[List.map_eq_singleton_iff]at hq
   obtain⟨p,hps',hqp⟩:=hq
   subst hqp
   dsimp only at h
   split at h
   ·rename_i tgt i sub hx
    split at h
    ·rename_i hc
     split at h
     ·rename_i hf
      refine⟨_,_,h,fun R' k'=>by simp only[evalOp,hsl,hce,hlen,hps,hx,hc,hf],A2 fun w F m ρc o ho ht hi hr => ?_⟩
      simp only[Aet,Aer]at hc
      obtain⟨hp0,rfl,hlive⟩:=hc
      simp only[Aer]at hlen
      subst hlen
      obtain⟨hu,ii,z,hi0,hz0,hsz,hzs,hby⟩:=VZ hce
      have hrp:=hr p.2
      rw[hx]at hrp
      have hone:(ρc p.2).oneCell'=true:=by
       have h2:=hrp
       unfold Rep at h2
       cases hto:H[tgt]? with
       |none=>rw[hto]at h2;exact h2.elim
       |some o=>rw[hto]at h2;exact Cj.one h2
      have hpt:(ρc p.2).cells = #[ρc p.2]:=by rw[← Agg (xs:=(ρc p.2).cells),Ex hone]
      have e1':Instr.fill (fun i=>some (i*Ty.bool.size,Ty.bool.size)) ((Array.range (1*Ty.bool.size)).map (z.cells[· % z.cells.size]!)) (parts.map fun p=>(p.1,ρc p.2)).toList=some #[ρc p.2]:=by
       rw[AgF,hps']
       simp only[AfP,Agm,hp0]
       have key:∀ (f:Fin 1→Value) (v:Value),(Array.ofFn f).setIfInBounds 0 v = #[v]:=by
        intro f v
        apply Array.ext
        ·simp
        ·intro j h1 h2
         have:j=0:=by simp at h2;omega
         subst this
         simp
       simp[Instr.fill,hpt,Ty.size,Array.range,key]
      have hrl:Aa w F m H (FF tgt [Int.ofNat i]) [ρc p.2]:=by
       show Aa w F m H [AV.eptr tgt (Int.ofNat i).toNat 0] [ρc p.2]
       unfold Aa
       exact⟨_,_,rfl,hrp,by unfold Aa;rfl⟩
      obtain⟨m',hg,hrep⟩:=Qb hi hf (w':=w.alloc (.cells #[ρc p.2] e)) (heap_alloc_new w _) rfl rfl rfl (by simp) (fun b hb=>Below.heap_alloc w _ b hb) (cap:=1) (by simp) (by simp only[maxLen];omega) (by simp) hrl (by simpa using hone) (by simp)
      refine⟨_,_,_,m',?_,hg,hrep⟩
      have:=HU (w:=w) (T:=T) (t':=.bool) hu hi0 hz0 (by rw[hsz];rfl) (by simp[Ty.size]) e1'
      simp[execOp,ho,this]
     ·cases h
    ·cases h
   ·cases h
  ·cases h
end
end Go.Pev
end
section
namespace Go.Pev
open Go.RowKit
section
variable {P:Program} {E:Env}
theorem C6{w:World}{b:Nat}{vs:Array Value}{T:TypeId}{f:Nat×Nat}(h:w.heap[b]? = some (.cells vs T f))(i:Nat):w.cell? ⟨b,i,none⟩=vs[i]? := by
 simp[World.cell?,h]
theorem Qq{w:World}{F:Nat→Prop}{m:Mp}{H:List Ob}{fz:List Bool}(hi:HI w F m H fz){id:Nat}{cs:List AV}(ho:H[id]? = some (.box cs)){off:Nat}{v:Value}(hr:Rep w F m H (.ptr id off) v):
  ∃ b c vs T,m id=some (b,c)∧v = .pointer (some ⟨b,off,none⟩)∧w.heap[b]? = some (.cells vs T (0,0))∧Aa w F m H cs vs.toList∧∀ u∈vs.toList,u.oneCell'=true:=by
 obtain⟨b,c,vs,T,e1,e2,e3,e4⟩:=hi.obj id _ ho
 unfold Rep Gb at hr
 rw[ho]at hr
 obtain⟨b',c',e5,e6⟩:=hr
 rw[e1]at e5;cases e5
 exact⟨b,c,vs,T,e1,e6,e2,e3,e4⟩
theorem LD{w:World}{F:Nat→Prop}{m:Mp}{H:List Ob}{fz:List Bool}(hi:HI w F m H fz){id:Nat}{T:TypeId}{t:Ty}{xs:List t.den}(ho:H[id]? = some (.arr T t xs)){i sub:Nat}{v:Value}(hr:Rep w F m H (.eptr id i sub) v):
  ∃ b cap vs row,m id=some (b,cap)∧v = .pointer (some ⟨b,i*t.size+sub,none⟩)∧i<xs.length∧w.heap[b]? = some (.cells vs T (0,0))∧xs.length≤cap∧cap≤maxLen∧vs.size=cap*t.size∧rows (Dat w F t) xs row∧vs.toList.take row.length=row∧0<t.size:=by
 obtain⟨h0,h⟩:=hi.obj id _ ho
 unfold Rep Cj at hr
 rw[ho]at hr
 obtain⟨hlt,b,c,e5,e6⟩:=hr
 rw[e5]at h
 obtain⟨vs,row,e1,e2,e3,e4,e7,e8⟩:=h
 exact⟨b,c,vs,row,e5,e6,hlt,e1,e2,e3,e4,e7,e8,h0⟩
theorem ARc(T:TypeId)(x:Operand):Claim P E (.load T x):=by
 intro R ty ρ H fz slot k r h
 simp only[evalOp]at h
 split at h
 ·rename_i n ag hs ha
  split at h
  ·rename_i id off hx
   split at h
   ·rename_i cs ho
    split at h
    ·rename_i v hl
     refine⟨_,_,h,fun R' k'=>by simp only[evalOp,hs,ha,hx,ho,hl],AS fun w F m ρc o hop hty hi hr => ?_⟩
     obtain⟨b,c,vs,T',e1,e2,e3,e4,e5⟩:=Qq hi ho (hx▸hr x)
     obtain⟨u,h1,h2⟩:=Ck (P:=P) hs ha hl (EX e4 off) (ad:=⟨b,off,none⟩) (fun u hu=>e5 u (AgO hu)) (fun j u hu=>by
      rw[B8,C6 e3]
      rw[Afo]at hu
      simpa using hu)
     exact⟨u,by simp[execOp,hop,Instr.loadAt,e2,Instr.sureAddr,h1],h2⟩
    ·cases h
   ·cases h
  ·rename_i cs hx
   split at h
   ·rename_i v hl
    refine⟨_,_,h,fun R' k'=>by simp only[evalOp,hs,ha,hx,hl],AS fun w F m ρc o hop hty hi hr => ?_⟩
    have hrx:=hr x
    rw[hx]at hrx
    unfold Rep at hrx
    obtain⟨ad,us,e1,e2,e3,e4,e5⟩:=hrx
    obtain⟨u,h1,h2⟩:=Ck (P:=P) hs ha hl e3 (ad:=ad) e4 e5
    exact⟨u,by simp[execOp,hop,Instr.loadAt,e1,Instr.sureAddr,h1],h2⟩
   ·cases h
  ·rename_i id i sub hx
   split at h
   ·rename_i T' t xs ho
    split at h
    ·rename_i v hl
     refine⟨_,_,h,fun R' k'=>by simp only[evalOp,hs,ha,hx,ho,hl],AS fun w F m ρc o hop hty hi hr => ?_⟩
     obtain⟨b,cap,vs,row,e1,e2,e3,e4,e5,e6,e7,e8,e9,e10⟩:=LD hi ho (hx▸hr x)
     have hk:=fun(x:t.den) cs (h:Dat w F t x cs)=>Dat.length t h
     have hget:xs[i]? = some (AX xs i t.zero):=by
      unfold AX
      rw[Aev e3,Aes,Aev e3];rfl
     have hd:=Ji hk e8 hget
     have hre:=Ht (m:=m) (H:=H) t hd
     obtain⟨u,h1,h2⟩:=Ck (P:=P) hs ha hl (EX hre sub) (ad:=⟨b,i*t.size+sub,none⟩) (fun u hu=>Dat.Gm t hd u (AgO hu)) (fun j u hu=>by
      rw[B8,C6 e4]
      rw[Afo,Afd]at hu
      split at hu
      ·rw[Afo]at hu
       have:=Cg e9 hu
       rw[← this];congr 1;omega
      ·cases hu)
     exact⟨u,by simp[execOp,hop,Instr.loadAt,e2,Instr.sureAddr,h1],h2⟩
    ·cases h
   ·rename_i T' tgt is ho
    split at h
    ·rename_i hc
     refine⟨_,_,h,fun R' k'=>by simp only[evalOp,hs,ha,hx,ho,hc],AS fun w F m ρc o hop hty hi hr => ?_⟩
     simp only[Aet,AgU,AgI]at hc
     obtain⟨rfl,rfl,rfl⟩:=hc
     have hrx:=hr x
     rw[hx]at hrx
     unfold Rep Cj at hrx
     rw[ho]at hrx
     obtain⟨hlt,b,c,hm,e2⟩:=hrx
     rw[AgN]at e2
     have hob:=hi.obj id _ ho
     rw[hm]at hob
     obtain⟨vs,us,o1,o2,o3,o4,o5,o6,o7⟩:=hob
     have hget:(FF tgt is)[i]? = some (.eptr tgt (AK (AX is i 0)) 0):=by
      unfold AX AK FF
      rw[Af4,Aev hlt,Aes,Aev hlt];rfl
     obtain⟨u,hu,hru⟩:=CN o5 hget
     have hv:=Cg o7 hu
     obtain⟨u',h1,h2⟩:=Ck (P:=P) (T:=T) (n:=1) (ag:=false) (cs:=[.eptr tgt (AK (AX is i 0)) 0]) (us:=[u]) (v:=.eptr tgt (AK (AX is i 0)) 0) hs ha rfl (by unfold Aa;exact⟨_,_,rfl,hru,by unfold Aa;rfl⟩) (ad:=⟨b,i,none⟩) (fun x hx=>by
      rw[AfH]at hx;subst hx;exact o6 _ (Ae5 hu)) (fun j x hj=>by
      cases j with
      |zero=>
       rw[B8,C6 o1]
       simp only[AfY,Aep]at hj
       subst hj
       exact hv
      |succ j=>simp at hj)
     exact⟨u',by simp[execOp,hop,Instr.loadAt,e2,Instr.sureAddr,h1],h2⟩
    ·cases h
   ·rename_i T' e t xs ver ho
    split at h
    ·rename_i hc
     refine⟨_,_,h,fun R' k'=>by simp only[evalOp,hs,ha,hx,ho,hc],AS fun w F m ρc o hop hty hi hr => ?_⟩
     simp only[Aet,AgU,AgI]at hc
     obtain⟨rfl,rfl,rfl⟩:=hc
     have hrx:=hr x
     rw[hx]at hrx
     unfold Rep Cj at hrx
     rw[ho]at hrx
     obtain⟨hlt,b,c,hm,e2⟩:=hrx
     rw[AgN]at e2
     obtain⟨b',cap,u,q1,⟨vs,q2,q3⟩,q4⟩:=AJw hi ho hlt
     rw[hm]at q1;cases q1
     obtain⟨u',h1,h2⟩:=Ck (P:=P) (T:=T) (n:=1) (ag:=false) (cs:=[.rowp id i ver]) (us:=[u]) (v:=.rowp id i ver) hs ha rfl (by unfold Aa;exact⟨_,_,rfl,q4,by unfold Aa;rfl⟩) (ad:=⟨b,i,none⟩) (fun x hx=>by
      rw[AfH]at hx;subst hx
      have:=q4
      unfold Rep at this
      rw[ho]at this
      exact this.one) (fun j x hj=>by
      cases j with
      |zero=>
       rw[B8,C6 q2]
       simp only[AfY,Aep]at hj
       subst hj
       simpa using q3
      |succ j=>simp at hj)
     exact⟨u',by simp[execOp,hop,Instr.loadAt,e2,Instr.sureAddr,h1],h2⟩
    ·cases h
   ·cases h
  ·cases h
 ·cases h
theorem GC{w:World}{b:Nat}{cs:Array Value}:(w.setRow b cs).os=w.os∧(w.setRow b cs).tape=w.tape∧(w.setRow b cs).output=w.output∧(w.setRow b cs).heap.size=w.heap.size∧∀ k,k≠b→(w.setRow b cs).heap[k]? = w.heap[k]? :=
 ⟨rfl,rfl,rfl,setRow_size w b cs,fun k hk=>setRow_other w b k cs hk⟩
theorem AVI{H:List Ob}{fz:List Bool}{id:Nat}{cs:List AV}(h:H[id]? = some (.box cs)):owned H fz id:=by simp only[owned,Bq];rw[h];trivial
theorem CE{H:List Ob}{fz:List Bool}{id:Nat}{T:TypeId}{t:Ty}{xs:List t.den}(h:H[id]? = some (.arr T t xs))(hf:Af fz id=true):owned H fz id:=by
 simp only[owned,Bq];rw[h];simpa [Af]using hf
theorem ER{H:List Ob}{fz:List Bool}{id:Nat}{a b:Ty}{es:List (a.den×b.den)}(h:H[id]? = some (.map a b es)):owned H fz id:=by simp only[owned,Bq];rw[h];trivial
theorem AIO{w:World}{F:Nat→Prop}{m:Mp}{H:List Ob}{fz:List Bool}(hi:HI w F m H fz){id:Nat}{T:TypeId}{t:Ty}{xs:List t.den}(ho:H[id]? = some (.arr T t xs))(hf:Af fz id=true)
  {b cap:Nat} (hm:m id=some (b,cap)) {i:Nat} (hlt:i<xs.length) {y:t.den} {ds:List Value} (hy:Dat w F t y ds) {vs:Array Value} {row:List Value}
  (e1:w.heap[b]? = some (.cells vs T (0,0))) (e2:xs.length≤cap) (e3:cap≤maxLen) (e4:vs.size=cap*t.size) (e7:rows (Dat w F t) xs row) (e8:vs.toList.take row.length=row) (h0:0<t.size) :
  Ap w F m H fz (w.setRow b (vs.toList.take (i*t.size)++ds++vs.toList.drop (i*t.size+t.size)).toArray) F m (H.set id (.arr T t (BA xs i y))) fz:=by
 obtain⟨r1,r2,r3,r4,r5⟩:=GC (w:=w) (b:=b) (cs:=(vs.toList.take (i*t.size)++ds++vs.toList.drop (i*t.size+t.size)).toArray)
 have hk:=fun(x:t.den) cs (h:Dat w F t x cs)=>Dat.length t h
 have hlen:=A3 hk e7
 have hdl:=hk _ _ hy
 have hle:i*t.size+t.size≤xs.length*t.size:=by
  have:(i+1)*t.size≤xs.length*t.size:=Afk _ hlt
  rwa [Afp,AgV]at this
 have hle2:xs.length*t.size≤cap*t.size:=Afk _ e2
 have hvl:vs.toList.length=cap*t.size:=by rw[Ae7,e4]
 refine Ap.set hi (CE ho hf) hm ho ⟨rfl,by simp[BA]⟩ r1 r2 r3 r4 r5 fun hmono => ?_
 refine⟨h0,?_⟩
 rw[hm]
 refine⟨_,row.take (i*t.size)++ds++row.drop (i*t.size+t.size),setRow_heap w b vs _ T _ e1,by simpa [BA]using e2,e3,?_,?_,?_⟩
 ·simp only[AgJ,Aey,Ae8,AfW,hvl,hdl];omega
 ·have hcell:∀ k,F k→(w.setRow b (vs.toList.take (i*t.size)++ds++vs.toList.drop (i*t.size+t.size)).toArray).heap[k]? = w.heap[k]? := fun k ha=>
   r5 k (by rintro rfl;exact hi.off id _ cap (CE ho hf) hm ha)
  exact BK (fun x _ cs hx=>hx.mono hcell (fun _ h=>h) t) (AJt hk e7 hlt hy)
 ·have hrl:(row.take (i*t.size)++ds++row.drop (i*t.size+t.size)).length=row.length:=by
   simp only[Aey,Ae8,AfW,hdl];omega
  rw[hrl]
  show List.take row.length (vs.toList.take (i*t.size)++ds++vs.toList.drop (i*t.size+t.size))=_
  have h1:row.take (i*t.size)=vs.toList.take (i*t.size):=by
   rw[← e8,Agz,Afi (by omega)]
  have h2:row.drop (i*t.size+t.size)=(vs.toList.drop (i*t.size+t.size)).take (row.length-(i*t.size+t.size)):=by
   conv=>lhs;rw[← e8]
   rw[List.drop_take]
  rw[h1,h2,Agp,Afg (by simp only[Aey,Ae8,hvl,hdl];omega)]
  congr 2
  simp only[Aey,Ae8,hvl,hdl];omega
theorem nul?_some{t e:Ty}(h:t.nul? = some e):t = .nul e:=by
 cases t<;>simp only[Ty.nul?]at h<;>first|(cases h;done)|skip
 cases h;rfl
theorem AJv{w:World}{F:Nat→Prop}{e:Ty}:∀ {xs:List Unit} {cs:List Value},rows (Dat w F (.nul e)) xs cs→rows (Dat w F (.slice e)) (Dy xs.length []) cs:=by
 intro xs
 induction xs with
 |nil=>exact fun h=>h
 |cons x xs ih=>
  rintro cs ⟨c1,c2,rfl,h1,h2⟩
  cases h1
  exact⟨_,c2,rfl,⟨none,0,rfl,Aez _,fun h=>absurd rfl h⟩,ih h2⟩
theorem Ac5{w:World}{F:Nat→Prop}{m:Mp}{H:List Ob}{fz:List Bool}(hi:HI w F m H fz){id:Nat}{T:TypeId}{e:Ty}{xs:List Unit}(ho:H[id]? = some (.arr T (.nul e) xs))(hf:Af fz id=true)
  {b cap:Nat} (hm:m id=some (b,cap)) {vs:Array Value} {row:List Value}
  (e1:w.heap[b]? = some (.cells vs T (0,0))) (e2:xs.length≤cap) (e3:cap≤maxLen) (e4:vs.size=cap*1) (e7:rows (Dat w F (.nul e)) xs row) (e8:vs.toList.take row.length=row) :
  Ap w F m H fz w F m (H.set id (.arr T (.slice e) (Dy xs.length []))) fz:=by
 refine Ap.set hi (CE ho hf) hm ho ⟨rfl,by simp[Dy]⟩ rfl rfl rfl rfl (fun _ _=>rfl) fun _=>⟨Nat.one_pos,?_⟩
 rw[hm]
 exact⟨vs,row,e1,by simpa [Dy]using e2,e3,e4,AJv e7,e8⟩
theorem AMn(T:TypeId)(x y:Operand):Claim P E (.store T x y):=by
 intro R ty ρ H fz slot k r h
 simp only[evalOp]at h
 split at h
 ·rename_i n vs hs hv
  split at h
  ·cases h
  ·rename_i hd
   simp only[Aer]at hd
   split at h
   ·rename_i id off hx
    split at h
    ·rename_i cs ho
     split at h
     ·rename_i cs' hp
      refine⟨_,_,h,fun R' k'=>by simp only[evalOp,hs,hv,hd,Ae2,hx,ho,hp],Dn fun w F m ρc o hop hty hi hr => ?_⟩
      obtain⟨b,c,us,T',e1,e2,e3,e4,e5⟩:=Qq hi ho (hx▸hr x)
      have hry:=cells?_ok hv (hr y)
      have h1y:=cells?_one hv (hr y)
      obtain⟨hle,hr'⟩:=I7 hp e4 hry
      have hyl:=Ar hry
      have hul:=Ar e4
      have hsz:(ρc y).cells.size=n:=by rw[← Ae7,hyl,hd]
      have hst:=DA (P:=P) hs e3 (off:=off) hsz h1y (by rw[← Ae7,hul];omega)
      obtain⟨r1,r2,r3,r4,r5⟩:=GC (w:=w) (b:=b) (cs:=(us.toList.take off++(ρc y).cells.toList++us.toList.drop (off+n)).toArray)
      have hg:=Ap.set hi (AVI ho) e1 ho (o':=.box cs') trivial r1 r2 r3 r4 r5 fun hmono=>⟨b,c,_,T',e1,setRow_heap w b us _ T' _ e3,?_,?_⟩
      ·exact⟨_,F,m,by simp[execOp,hop,Instr.storeAt,e2,Instr.sureAddr,hst],hg⟩
      ·rw[hd]at hr'
       exact DM (Ar hr') fun i c v hc hv=>by
        obtain⟨v',hv',hr''⟩:=CN hr' hc
        have:(us.toList.take off++(ρc y).cells.toList++us.toList.drop (off+n))[i]? = some v:=hv
        rw[this]at hv';cases hv'
        exact hmono hr''
      ·intro u hu
       have hu:u∈us.toList.take off++(ρc y).cells.toList++us.toList.drop (off+n):=hu
       simp only[Aeu]at hu
       rcases hu with(hu|hu)|hu
       ·exact e5 u (Age hu)
       ·exact h1y u hu
       ·exact e5 u (AgO hu)
     ·cases h
    ·cases h
   ·rename_i id i sub hx
    split at h
    ·rename_i T' t xs ho
     split at h
     ·rename_i e hnul
      have htn:=nul?_some hnul
      subst htn
      split at h
      ·rename_i hc
       split at h
       ·rename_i z fr hz
        split at h
        ·rename_i hf
         refine⟨_,_,h,fun R' k'=>by simp only[evalOp,hs,hv,hd,Ae2,hx,ho,hnul,hc,hz,hf],Dn fun w F m ρc o hop hty hi hr => ?_⟩
         simp only[Aet,AgU]at hc
         obtain⟨rfl,rfl⟩:=hc
         have hgf:=Ap.freeze hi fr
         have hrx:=hgf.1.rep hi (hx▸hr x)
         obtain⟨b,cap,us,row,e1,e2,e3,e4,e5,e6,e7,e8,e9,e10⟩:=LD hgf.2 ho hrx
         have hg0:=Ac5 hgf.2 ho hf e1 e4 e5 e6 e7 e8 e9
         have hyd:=PJ (C7 hi hz (hr y))
         have hyl:=Dat.length (.slice e) hyd
         have hst:=DA (P:=P) hs e4 (off:=i*1) (u:=ρc y) (by rw[← Ae7,hyl];rfl) (cells?_one hv (hr y)) (by
          rw[e7]
          have:(i+1)*1≤cap*1:=Afk _ (by omega)
          rwa [Afp,AgV]at this)
         have hlt:=Al ho
         have hg:=AIO (t:=.slice e) hg0.2 (Au hlt) hf e1 (by simpa [Dy]using e3) (hg0.1.dat hgf.2 (t:=.slice e) hyd) e4 (by simpa [Dy]using e5) e6 e7 (AJv e8) e9 e10
         rw[List.set_set]at hg
         have e2':ρc x = .pointer (some ⟨b,i*(Ty.slice e).size,none⟩):=e2
         refine⟨_,_,m,(?_:(execOp ρc o).run P w = .ok _ _),(hgf.trans hg0).trans hg⟩
         have hst':(storeVar T ⟨b,i*(Ty.slice e).size,none⟩ (ρc y)).run P w = .ok () (w.setRow b (us.toList.take (i*(Ty.slice e).size)++(ρc y).cells.toList++us.toList.drop (i*(Ty.slice e).size+(Ty.slice e).size)).toArray):=hst
         simp[execOp,hop,Instr.storeAt,e2',Instr.sureAddr,hst']
        ·cases h
       ·cases h
      ·cases h
     rename_i hnul
     split at h
     ·rename_i hc
      split at h
      ·rename_i z fr hz
       split at h
       ·rename_i hf
        refine⟨_,_,h,fun R' k'=>by simp only[evalOp,hs,hv,hd,Ae2,hx,ho,hnul,hc,hz,hf],Dn fun w F m ρc o hop hty hi hr => ?_⟩
        simp only[Aet,AgU]at hc
        obtain⟨rfl,rfl⟩:=hc
        have hgf:=Ap.freeze hi fr
        have hrx:=hgf.1.rep hi (hx▸hr x)
        obtain⟨b,cap,us,row,e1,e2,e3,e4,e5,e6,e7,e8,e9,e10⟩:=LD hgf.2 ho hrx
        have hyd:=PJ (C7 hi hz (hr y))
        have hyl:=Dat.length t hyd
        have hst:=DA (P:=P) hs e4 (off:=i*t.size) (u:=ρc y) (by rw[← Ae7,hyl]) (cells?_one hv (hr y)) (by
         rw[e7]
         have:(i+1)*t.size≤cap*t.size:=Afk _ (by omega)
         rwa [Afp,AgV]at this)
        have hg:=AIO hgf.2 ho hf e1 e3 hyd e4 e5 e6 e7 e8 e9 e10
        exact⟨_,_,m,by simp[execOp,hop,Instr.storeAt,e2,Instr.sureAddr,hst],hgf.trans hg⟩
       ·cases h
      ·cases h
     ·rename_i hc
      split at h
      ·cases h
      ·rename_i cs' hp
       split at h
       ·rename_i z fr hz
        split at h
        ·rename_i hf
         refine⟨_,_,h,fun R' k'=>by simp only[evalOp,hs,hv,hd,Ae2,hx,ho,hnul,hc,hp,hz,hf],Dn fun w F m ρc o hop hty hi hr => ?_⟩
         have hgf:=Ap.freeze hi fr
         obtain⟨b,cap,us,row,e1,e2,e3,e4,e5,e6,e7,e8,e9,e10⟩:=LD hi ho (hx▸hr x)
         have hk:=fun(x:t.den) cs (h:Dat w F t x cs)=>Dat.length t h
         have hget:xs[i]? = some (AX xs i t.zero):=by
          unfold AX
          rw[Aev e3,Aes,Aev e3];rfl
         have hdi:=Ji hk e8 hget
         have hre:=Ht (m:=m) (H:=H) t hdi
         have hry:=cells?_ok hv (hr y)
         have h1y:=cells?_one hv (hr y)
         obtain⟨hle,hr'⟩:=I7 hp hre hry
         have hyl:=Ar hry
         have hel:=Ar hre
         have hrl:=A3 hk e8
         have hcl:=hk _ _ hdi
         have hi1:i*t.size+t.size≤xs.length*t.size:=by
          have:(i+1)*t.size≤xs.length*t.size:=Afk _ e3
          rwa [Afp,AgV]at this
         have hi2:xs.length*t.size≤cap*t.size:=Afk _ e5
         rw[hd]at hle hr'
         have hst:=DA (P:=P) hs e4 (off:=i*t.size+sub) (u:=ρc y) (by rw[← Ae7,hyl,hd]) h1y (by omega)
         obtain⟨u1,u2,q1,q2,q3⟩:=AAM hi t hz hr'
         unfold Aa at q3;subst q3
         rw[Afx]at q1;subst q1
         have hg:=AIO hgf.2 ho hf e1 e3 q2 e4 e5 e6 e7 (BK (fun x _ cs hx=>hx.frz) e8) e9 e10
         have hX:(row.drop (i*t.size)).take t.size=(us.toList.drop (i*t.size)).take t.size:=by
          conv=>lhs;rw[← e9]
          rw[List.drop_take,Agz,Afi (by omega)]
         have hEq:us.toList.take (i*t.size)++(((row.drop (i*t.size)).take t.size).take sub++(ρc y).cells.toList++((row.drop (i*t.size)).take t.size).drop (sub+n))++us.toList.drop (i*t.size+t.size) =
           us.toList.take (i*t.size+sub)++(ρc y).cells.toList++us.toList.drop (i*t.size+sub+n):=by
          rw[hX,List.take_add,Agz,Afi (by omega)]
          have:((us.toList.drop (i*t.size)).take t.size).drop (sub+n)++us.toList.drop (i*t.size+t.size)=us.toList.drop (i*t.size+sub+n):=by
           rw[← Agf (i:=t.size),Ahu,← Agf (i:=sub+n)]
           conv=>rhs;rw[← Afm t.size (us.toList.drop (i*t.size))]
           rw[List.drop_append_of_le_length (by rw[Ae8,AfW,Ae7];omega)]
          rw[← this];simp
         rw[hEq]at hg
         exact⟨_,_,m,by simp[execOp,hop,Instr.storeAt,e2,Instr.sureAddr,hst],hgf.trans hg⟩
        ·cases h
       ·cases h
    ·rename_i T' e t xs ver i' ho
     split at h
     ·rename_i id' j ver' hy hc
      split at h
      ·rename_i hd2
       split at h
       ·rename_i hq
        refine⟨_,_,h,fun R' k'=>by
         have hv':=hv
         rw[hy]at hv'
         simp only[evalOp,hs,hv',hd,Ae2,hx,ho,hy,hc,hd2,hq],Dn fun w F m ρc o hop hty hi hr => ?_⟩
        simp only[Aet,AgU,Aer,B5]at hc hd2 hq
        obtain⟨⟨rfl,rfl⟩,hun⟩:=hc
        obtain⟨rfl,rfl⟩:=hd2
        obtain⟨hq1,hq2⟩:=hq
        have e1:i=i':=by omega
        have e2:j=i':=by omega
        subst e1;subst e2
        have hun':fz.getD id false=false:=by unfold Af at hun;simpa using hun
        have hrx:=hr x
        rw[hx]at hrx
        unfold Rep Cj at hrx
        rw[ho]at hrx
        obtain⟨hlt,b,c,hm,e2⟩:=hrx
        rw[AgN]at e2
        have hry:=hr y
        rw[hy]at hry
        unfold Rep at hry
        rw[ho]at hry
        obtain⟨hone,_,h7⟩:=hry
        obtain⟨ys,hys,hrep⟩:=(h7 rfl).resolve_right fun h=>by cases h.1
        obtain⟨h4,h5⟩:=hi.obj id _ ho
        rw[hm]at h5
        obtain⟨us,q1,q2,q3,q4,q5⟩:=h5
        have hcl:=Ex hone
        have hsz1:(ρc y).cells.size=1:=by rw[← Ae7,hcl];rfl
        have hlu:j+1≤us.size:=by rw[q4];exact Afv hlt q2
        have hst:=DA (P:=P) hs q1 (off:=j) (u:=ρc y) hsz1 (cells?_one hv (hr y)) hlu
        obtain⟨r1,r2,r3,r4,r5⟩:=GC (w:=w) (b:=b) (cs:=(us.toList.take j++(ρc y).cells.toList++us.toList.drop (j+1)).toArray)
        have hg:=Ap.put hi ho hun' hys hm q1 hrep r1 r2 r3 r4 r5 (setRow_heap w b us _ T' _ q1) (by
         rw[List.toList_toArray,hcl,List.set_eq_take_append_cons_drop,Ae6 (by rw[Ae7];omega)]
         simp)
        exact⟨_,F,m,by simp[execOp,hop,Instr.storeAt,e2,Instr.sureAddr,hst],hg⟩
       ·cases h
      ·cases h
     ·cases h
    ·cases h
   ·cases h
 ·cases h
theorem Kf{H:List Ob}{id:Nat}(h:IV H id=true):∃ cs,H[id]? = some (.box cs):=by
 unfold IV at h
 split at h
 ·exact⟨_,by assumption⟩
 ·cases h
theorem Dj{H:List Ob}{id:Nat}(h:Ci H id=true):∃ T t xs,H[id]? = some (.arr T t xs):=by
 unfold Ci at h
 split at h
 ·exact⟨_,_,_,by assumption⟩
 ·cases h
theorem ABO(x:Operand):Claim P E (.nilCheck x):=by
 intro R ty ρ H fz slot k r h
 simp only[evalOp]at h
 split at h
 ·rename_i id off hx
  split at h
  ·rename_i hl
   obtain⟨cs,ho⟩:=Kf hl
   refine⟨_,_,h,fun R' k'=>by simp only[evalOp,hx,hl],AS fun w F m ρc o hop hty hi hr=>⟨ρc x,?_,hx▸hr x⟩⟩
   obtain⟨b,c,vs,T,_,e2,_⟩:=Qq hi ho (hx▸hr x)
   simp[execOp,hop,e2]
  ·cases h
 ·rename_i id i s hx
  split at h
  ·rename_i hl
   obtain⟨T,t,xs,ho⟩:=Dj hl
   refine⟨_,_,h,fun R' k'=>by simp only[evalOp,hx,hl],AS fun w F m ρc o hop hty hi hr=>⟨ρc x,?_,hx▸hr x⟩⟩
   obtain⟨b,c,vs,T,_,e2,_⟩:=LD hi ho (hx▸hr x)
   simp[execOp,hop,e2]
  ·cases h
 ·rename_i cs hx
  refine⟨_,_,h,fun R' k'=>by simp only[evalOp,hx],AS fun w F m ρc o hop hty hi hr=>⟨ρc x,?_,hx▸hr x⟩⟩
  have hrx:=hr x
  rw[hx]at hrx
  unfold Rep at hrx
  obtain⟨ad,us,e1,_⟩:=hrx
  simp[execOp,hop,e1]
 ·rename_i f cs hx
  refine⟨_,_,h,fun R' k'=>by simp only[evalOp,hx],AS fun w F m ρc o hop hty hi hr=>⟨ρc x,?_,hx▸hr x⟩⟩
  have hrx:=hr x
  rw[hx]at hrx
  unfold Rep at hrx
  obtain⟨us,e1,_⟩:=hrx
  simp[execOp,hop,e1]
 ·rename_i f cs hx
  refine⟨_,_,h,fun R' k'=>by simp only[evalOp,hx],AS fun w F m ρc o hop hty hi hr=>⟨ρc x,?_,hx▸hr x⟩⟩
  have hrx:=hr x
  rw[hx]at hrx
  unfold Rep at hrx
  obtain⟨us,e1,_⟩:=hrx
  simp[execOp,hop,e1]
 ·cases h
end
end Go.Pev
end
section
namespace Go.Pev
open Go.RowKit
section
variable {P:Program} {E:Env}
theorem GN(op:BinOp)(t:TypeId)(x y:Operand)(w:World)(k:IntKind)(n:Int)(v:Value):(eqGuard op t x y (.int k n) v).run P w = .ok () w:=by
 rw[eqGuard_at_int];rfl
theorem Qf(op:BinOp)(t:TypeId)(x y:Operand)(w:World)(b:Bool)(v:Value):(eqGuard op t x y (.bool b) v).run P w = .ok () w:=by
 rw[eqGuard_at_bool];rfl
theorem Qe(op:BinOp)(t:TypeId)(x y:Operand)(w:World)(b:ByteArray)(v:Value):(eqGuard op t x y (.string b) v).run P w = .ok () w:=by
 rw[eqGuard_at_string];rfl
theorem AMw(s s':ByteArray):Abf (bytesOf s) (bytesOf s')=(s.toList==s'.toList):=by
 rw[AhH]
 unfold Abf
 rw[AgU,AgU,ByteArray.toList_eq,ByteArray.toList_eq]
 unfold bytesOf
 constructor
 ·intro h
  exact(List.map_inj_right (fun a b e=>UInt8.toNat_inj.1 (Int.ofNat.inj e))).1 h
 ·intro h;rw[h]
theorem AOc{op:BinOp}{j:IntKind}{a b:Int}{v:AV}(h:ARm op j a b=some v)(t:TypeId)(w:World):
  ∃ u,(binOp op t (.int j a) (.int j b)).run P w = .ok u w∧∀ F m H,Rep w F m H v u:=by
 unfold ARm at h
 simp only[Ai,Az,B5]at h
 cases op with
 |add=>simp only[Aep]at h;subst h;exact⟨.int j (j.wrap (a+b)),by simp[binOp,Op.intArith],fun _ _ _=>Ay _ _⟩
 |sub=>simp only[Aep]at h;subst h;exact⟨.int j (j.wrap (a-b)),by simp[binOp,Op.intArith],fun _ _ _=>Ay _ _⟩
 |mul=>simp only[Aep]at h;subst h;exact⟨.int j (j.wrap (a*b)),by simp[binOp,Op.intArith],fun _ _ _=>Ay _ _⟩
 |and=>simp only[Aep]at h;subst h;exact⟨.int j (j.wrap (BitVec.ofInt j.bits a &&& BitVec.ofInt j.bits b).toNat),by simp only[binOp,ne_eq,AgK,Ae9];rfl,fun _ _ _=>Ay _ _⟩
 |or=>simp only[Aep]at h;subst h;exact⟨.int j (j.wrap (BitVec.ofInt j.bits a ||| BitVec.ofInt j.bits b).toNat),by simp only[binOp,ne_eq,AgK,Ae9];rfl,fun _ _ _=>Ay _ _⟩
 |xor=>simp only[Aep]at h;subst h;exact⟨.int j (j.wrap (BitVec.ofInt j.bits a ^^^ BitVec.ofInt j.bits b).toNat),by simp only[binOp,ne_eq,AgK,Ae9];rfl,fun _ _ _=>Ay _ _⟩
 |andNot=>simp only[Aep]at h;subst h;exact⟨.int j (j.wrap (BitVec.ofInt j.bits a &&& ~~~(BitVec.ofInt j.bits b)).toNat),by simp only[binOp,ne_eq,AgK,Ae9];rfl,fun _ _ _=>Ay _ _⟩
 |eql=>simp only[Aep]at h;subst h;exact⟨.bool (a==b),by simp only[binOp,ne_eq,AgK,Ae9];rfl,fun _ _ _=>BV _⟩
 |neq=>simp only[Aep]at h;subst h;exact⟨.bool (a != b),by simp only[binOp,ne_eq,AgK,Ae9];rfl,fun _ _ _=>BV _⟩
 |lss=>simp only[Aep]at h;subst h;exact⟨.bool (decide (a<b)),by simp only[binOp,ne_eq,AgK,Ae9];rfl,fun _ _ _=>BV _⟩
 |leq=>simp only[Aep]at h;subst h;exact⟨.bool (decide (a≤b)),by simp only[binOp,ne_eq,AgK,Ae9];rfl,fun _ _ _=>BV _⟩
 |gtr=>simp only[Aep]at h;subst h;exact⟨.bool (decide (a > b)),by simp only[binOp,ne_eq,AgK,Ae9];rfl,fun _ _ _=>BV _⟩
 |geq=>simp only[Aep]at h;subst h;exact⟨.bool (decide (a≥b)),by simp only[binOp,ne_eq,AgK,Ae9];rfl,fun _ _ _=>BV _⟩
 |_=>cases h
theorem Mq{w:World}{F:Nat→Prop}{m:Mp}{H:List Ob}{v:AV}(h:Qs v=true){u:Value}(hr:Rep w F m H v u):∃ vs,u = .agg vs:=by
 cases v with
 |agg cs=>unfold Rep at hr;obtain⟨vs,e,_⟩:=hr;exact⟨vs,e⟩
 |data t d=>
  have h:t.isAgg=true:=h
  unfold Rep Bf at hr
  rw[Ae6 h]at hr
  obtain⟨vs,e,_⟩:=hr;exact⟨vs,e⟩
 |_=>simp[Qs]at h
theorem ACI{T:TypeId}{n:List Bool}(h:structEq P T=some n):∃ fs:Array Field,P.underlying T=some (.struct fs)∧P.eqGuardType P.depth T=false∧P.stoodInHeld T=false∧DV P fs.toList 0=true∧n=fs.toList.map fun f=>Hk P f.type:=by
 unfold structEq at h
 split at h
 ·rename_i fs hu
  split at h
  ·rename_i hok
   cases h
   simp only[Aet,AgI]at hok
   exact⟨fs,hu,hok.1,hok.2.1,hok.2.2,rfl⟩
  ·cases h
 ·cases h
theorem Bv{t:TypeId}(h:Lw P t=true):(∃ k,P.underlying t=some (.int k)∧Hk P t=true)∨(P.underlying t=some .bool∧Hk P t=false):=by
 unfold Lw at h
 split at h
 ·rename_i k hk;exact .inl ⟨k,hk,by simp[Hk,hk]⟩
 ·rename_i hk;exact .inr ⟨hk,by simp[Hk,hk]⟩
 ·cases h
theorem Mb{k:Bool}{ks:List Bool}{c e:AV}{cs ds:List AV}{r:Bool}(h:BJ (k::ks) (c::cs) (e::ds)=some r):
  (∃ j a b r',k=true∧c = .data (.int j) a∧e = .data (.int j) b∧BJ ks cs ds=some r'∧r=(ieq a b&&r'))∨(∃ a b r',k=false∧c = .data .bool a∧e = .data .bool b∧BJ ks cs ds=some r'∧r=((a==b)&&r')):=by
 unfold BJ at h
 split at h
 ·rename_i h1;cases h1
 ·rename_i h1 h2 h3
  cases h1;cases h2;cases h3
  split at h
  ·rename_i r' hj h2
   simp only[Aer]at hj
   subst hj
   cases h
   exact .inl ⟨_,_,_,_,rfl,rfl,rfl,h2,rfl⟩
  ·cases h
 ·rename_i h1 h2 h3
  cases h1;cases h2;cases h3
  split at h
  ·rename_i r' h2
   cases h
   exact .inr ⟨_,_,_,rfl,rfl,rfl,h2,rfl⟩
  ·cases h
 ·cases h
theorem Qg{w:World}{F:Nat→Prop}{m:Mp}{H:List Ob}(d:Nat)(xs ys:Array Value):∀ (fs:List Field) (i:Nat) (cs ds:List AV) (r:Bool),DV P fs i=true→Aa w F m H cs (xs.toList.drop i)→Aa w F m H ds (ys.toList.drop i)→BJ (fs.map fun f=>Hk P f.type) cs ds=some r →
  (Op.eqFields (d+1) xs ys fs).run P w = .ok r w:=by
 intro fs
 induction fs with
 |nil=>
  intro i cs ds r hok hc hd he
  cases cs with
  |cons c cs=>simp[BJ]at he
  |nil=>
   cases ds with
   |cons c cs=>simp[BJ]at he
   |nil=>simp only[Agm,BJ,Aep]at he;subst he;simp[Op.eqFields]
 |cons f fs ih=>
  intro i cs ds r hok hc hd he
  rw[AfP]at he
  cases cs with
  |nil=>cases hf:Hk P f.type<;>rw[hf]at he<;>simp[BJ]at he
  |cons c cs=>
   cases ds with
   |nil=>cases hf:Hk P f.type<;>rw[hf]at he<;>simp[BJ]at he
   |cons e ds=>
    simp only[DV,Aet,bne_iff_ne,Aer]at hok
    obtain⟨hn,ho,hsc,hok⟩:=hok
    unfold Aa at hc hd
    obtain⟨v,vs,e1,hv,hvs⟩:=hc
    obtain⟨u,us,e2,hu,hus⟩:=hd
    have g1:xs[i]? = some v:=by
     have:=Af5 (·[0]?) e1
     simpa using this
    have g2:ys[i]? = some u:=by
     have:=Af5 (·[0]?) e2
     simpa using this
    have n1:xs.toList.drop (i+1)=vs:=by
     have:=Af5 (List.drop 1) e1
     simpa only[Agf,Agn,Agr]using this
    have n2:ys.toList.drop (i+1)=us:=by
     have:=Af5 (List.drop 1) e2
     simpa only[Agf,Agn,Agr]using this
    have hag:D0 P f.type=some false:=by
     rcases Bv hsc with⟨k,hk,_⟩|⟨hk,_⟩<;>simp[D0,hk]
    have p1:(part f.type xs f.offset).run P w = .ok v w:=by
     rw[ho];simp[part,CQ hag,g1]
    have p2:(part f.type ys f.offset).run P w = .ok u w:=by
     rw[ho];simp[part,CQ hag,g2]
    have step:∀ (q r':Bool),(Op.equalIn (d+1) f.type v u).run P w = .ok q w→BJ (fs.map fun f=>Hk P f.type) cs ds=some r'→(Op.eqFields (d+1) xs ys (f::fs)).run P w = .ok (q&&r') w:=by
     intro q r' h1 h2
     have h3:=ih (i+1) cs ds r' hok (by rw[n1];exact hvs) (by rw[n2];exact hus) h2
     simp only[Op.eqFields,hn,ne_eq,not_false_eq_true,AfS,Sem.run_bind,p1,Result.andThen_ok,p2,h1,Sem.run_ite]
     cases q
     ·simp
     ·simpa using h3
    rcases Mb he with⟨j,a,b,r',hk,rfl,rfl,h2,rfl⟩|⟨a,b,r',hk,rfl,rfl,h2,rfl⟩
    ·have v1:=A8 hv
     have v2:=A8 hu
     subst v1 v2
     rcases Bv hsc with⟨k,hk1,_⟩|⟨_,hk2⟩
     ·rw[B5]
      exact step _ _ (run_equalIn_int w d f.type j k a b hk1) h2
     ·rw[hk]at hk2;cases hk2
    ·have v1:=Cl hv
     have v2:=Cl hu
     subst v1 v2
     rcases Bv hsc with⟨k,_,hk2⟩|⟨hk1,_⟩
     ·rw[hk]at hk2;cases hk2
     ·exact step _ _ (run_equalIn_bool' w d f.type a b hk1) h2
theorem AMW:∀ {ks ks':List Bool} {cs ds:List AV} {r:Bool},BJ (ks++ks') cs ds=some r →
  ∃ cs1 cs2 ds1 ds2 r1 r2,cs=cs1++cs2∧ds=ds1++ds2∧cs1.length=ks.length∧ds1.length=ks.length∧BJ ks cs1 ds1=some r1∧BJ ks' cs2 ds2=some r2∧r=(r1&&r2):=by
 intro ks
 induction ks with
 |nil=>intro ks' cs ds r h;exact⟨[],cs,[],ds,true,r,rfl,rfl,rfl,rfl,rfl,h,by simp⟩
 |cons b ks ih=>
  intro ks' cs ds r h
  rw[AfK]at h
  cases cs with
  |nil=>cases b<;>simp[BJ]at h
  |cons c cs=>
   cases ds with
   |nil=>cases b<;>simp[BJ]at h
   |cons e ds=>
    rcases Mb h with⟨j,x,y,r',rfl,rfl,rfl,h2,rfl⟩|⟨x,y,r',rfl,rfl,rfl,h2,rfl⟩
    ·obtain⟨cs1,cs2,ds1,ds2,r1,r2,rfl,rfl,l1,l2,q1,q2,rfl⟩:=ih h2
     exact⟨_::cs1,cs2,_::ds1,ds2,(ieq x y&&r1),r2,rfl,rfl,by simp[l1],by simp[l2],by simp[BJ,q1],q2,by rw[Bool.and_assoc]⟩
    ·obtain⟨cs1,cs2,ds1,ds2,r1,r2,rfl,rfl,l1,l2,q1,q2,rfl⟩:=ih h2
     exact⟨_::cs1,cs2,_::ds1,ds2,((x==y)&&r1),r2,rfl,rfl,by simp[l1],by simp[l2],by simp[BJ,q1],q2,by rw[Bool.and_assoc]⟩
theorem ABh{w:World}{F:Nat→Prop}{m:Mp}{H:List Ob}:∀ {a b:List AV} {vs:List Value},Aa w F m H (a++b) vs→∃ v1 v2,vs=v1++v2∧Aa w F m H a v1∧Aa w F m H b v2:=by
 intro a
 induction a with
 |nil=>intro b vs h;exact⟨[],vs,rfl,by unfold Aa;rfl,h⟩
 |cons c a ih=>
  intro b vs h
  rw[AfK]at h
  unfold Aa at h
  obtain⟨v,vs',rfl,hv,h⟩:=h
  obtain⟨v1,v2,rfl,h1,h2⟩:=ih h
  exact⟨v::v1,v2,rfl,by unfold Aa;exact⟨v,v1,rfl,hv,h1⟩,h2⟩
theorem AQ6{w:World}{F:Nat→Prop}{m:Mp}{H:List Ob}(d:Nat)(xs ys:Array Value):∀ (fs:List Field) (i:Nat) (n:List Bool) (cs ds:List AV) (r:Bool),Of P fs i=some n→Aa w F m H cs (xs.toList.drop i)→Aa w F m H ds (ys.toList.drop i)→BJ n cs ds=some r →
  (Op.eqFields (d+1+1) xs ys fs).run P w = .ok r w:=by
 intro fs
 induction fs with
 |nil=>
  intro i n cs ds r hok hc hd he
  cases hok
  cases cs with
  |cons c cs=>simp[BJ]at he
  |nil=>
   cases ds with
   |cons c cs=>simp[BJ]at he
   |nil=>simp only[BJ,Aep]at he;subst he;simp[Op.eqFields]
 |cons f fs ih=>
  intro i n cs ds r hok hc hd he
  unfold Of at hok
  split at hok
  ·cases hok
  rename_i hno
  simp only[Aet,bne_iff_ne,Aer]at hno
  obtain⟨hn,ho⟩:=hno
  have go:∀ (v u:Value) (n1 n2:List Bool) (cs1 cs2 ds1 ds2:List AV) (q r':Bool) (j:Nat),Of P fs (i+j)=some n2→Aa w F m H cs2 (xs.toList.drop (i+j))→Aa w F m H ds2 (ys.toList.drop (i+j))→BJ n2 cs2 ds2=some r' →
    (part f.type xs f.offset).run P w = .ok v w→(part f.type ys f.offset).run P w = .ok u w→(Op.equalIn (d+1+1) f.type v u).run P w = .ok q w→(Op.eqFields (d+1+1) xs ys (f::fs)).run P w = .ok (q&&r') w:=by
   intro v u n1 n2 cs1 cs2 ds1 ds2 q r' j h1 h2 h3 h4 p1 p2 h5
   have h6:=ih (i+j) n2 cs2 ds2 r' h1 h2 h3 h4
   simp only[Op.eqFields,hn,ne_eq,not_false_eq_true,AfS,Sem.run_bind,p1,Result.andThen_ok,p2,h5,Sem.run_ite]
   cases q
   ·simp
   ·simpa using h6
  split at hok
  ·rename_i hsc
   obtain⟨n2,h2,rfl⟩:=Ae4.1 hok
   cases cs with
   |nil=>cases hf:Hk P f.type<;>rw[hf]at he<;>simp[BJ]at he
   |cons c cs=>
    cases ds with
    |nil=>cases hf:Hk P f.type<;>rw[hf]at he<;>simp[BJ]at he
    |cons e ds=>
     unfold Aa at hc hd
     obtain⟨v,vs,e1,hv,hvs⟩:=hc
     obtain⟨u,us,e2,hu,hus⟩:=hd
     have g1:xs[i]? = some v:=by
      have:=Af5 (·[0]?) e1
      simpa using this
     have g2:ys[i]? = some u:=by
      have:=Af5 (·[0]?) e2
      simpa using this
     have n1:xs.toList.drop (i+1)=vs:=by
      have:=Af5 (List.drop 1) e1
      simpa only[Agf,Agn,Agr]using this
     have n3:ys.toList.drop (i+1)=us:=by
      have:=Af5 (List.drop 1) e2
      simpa only[Agf,Agn,Agr]using this
     have hag:D0 P f.type=some false:=by
      rcases Bv hsc with⟨k,hk,_⟩|⟨hk,_⟩<;>simp[D0,hk]
     have p1:(part f.type xs f.offset).run P w = .ok v w:=by
      rw[ho];simp[part,CQ hag,g1]
     have p2:(part f.type ys f.offset).run P w = .ok u w:=by
      rw[ho];simp[part,CQ hag,g2]
     rcases Mb he with⟨j,a,b,r',hk,rfl,rfl,h4,rfl⟩|⟨a,b,r',hk,rfl,rfl,h4,rfl⟩
     ·have v1:=A8 hv
      have v2:=A8 hu
      subst v1 v2
      rcases Bv hsc with⟨k,hk1,_⟩|⟨_,hk2⟩
      ·rw[B5]
       exact go _ _ [] n2 [] cs [] ds _ _ 1 h2 (by rw[n1];exact hvs) (by rw[n3];exact hus) h4 p1 p2 (run_equalIn_int w _ f.type j k a b hk1)
      ·rw[hk]at hk2;cases hk2
     ·have v1:=Cl hv
      have v2:=Cl hu
      subst v1 v2
      rcases Bv hsc with⟨k,_,hk2⟩|⟨hk1,_⟩
      ·rw[hk]at hk2;cases hk2
      ·exact go _ _ [] n2 [] cs [] ds _ _ 1 h2 (by rw[n1];exact hvs) (by rw[n3];exact hus) h4 p1 p2 (run_equalIn_bool' w _ f.type a b hk1)
  ·split at hok
   ·rename_i gs hu
    split at hok
    ·rename_i hg
     simp only[Aet,AgI,Aer]at hg
     obtain⟨hst,hge,hsz⟩:=hg
     obtain⟨n2,h2,rfl⟩:=Ae4.1 hok
     obtain⟨cs1,cs2,ds1,ds2,r1,r2,rfl,rfl,l1,l2,q1,q2,rfl⟩:=AMW he
     obtain⟨x1,x2,ex,hx1,hx2⟩:=ABh hc
     obtain⟨y1,y2,ey,hy1,hy2⟩:=ABh hd
     have lx:=Ar hx1
     have ly:=Ar hy1
     have lg:(gs.toList.map fun g=>Hk P g.type).length=gs.size:=by simp
     rw[lg]at l1 l2
     have hag:D0 P f.type=some true:=by simp[D0,hu]
     have hfo:P.fieldsOf f.type=gs:=by simp[Program.fieldsOf,hu]
     have tk:∀ (zs:Array Value) (z1 z2:List Value),zs.toList.drop i=z1++z2→z1.length=gs.size→(zs.extract i (i+gs.size)).toList=z1∧zs.toList.drop (i+gs.size)=z2:=by
      intro zs z1 z2 hz hl
      constructor
      ·rw[Array.toList_extract,Ahg,hz,Nat.add_sub_cancel_left,← hl,Ahh]
       rfl
      ·rw[← Agf,hz,← hl,List.drop_left']
       rfl
     obtain⟨t1,t2⟩:=tk xs x1 x2 ex (by omega)
     obtain⟨t3,t4⟩:=tk ys y1 y2 ey (by omega)
     have hso:(sizeOf f.type).run P w = .ok gs.size w:=by
      obtain⟨ii,hi1,hi2⟩:=Ae4.1 hsz
      rw[run_sizeOf hi1,hi2]
     have p1:(part f.type xs f.offset).run P w = .ok (.agg (xs.extract i (i+gs.size))) w:=by
      rw[ho];simp[part,CQ hag,hso]
     have p2:(part f.type ys f.offset).run P w = .ok (.agg (ys.extract i (i+gs.size))) w:=by
      rw[ho];simp[part,CQ hag,hso]
     refine go _ _ [] n2 [] cs2 [] ds2 r1 r2 gs.size h2 (by rw[t2];exact hx2) (by rw[t4];exact hy2) q2 p1 p2 ?_
     rw[run_equalIn_agg w (d+1) f.type _ _ (by rw[hfo];exact hu) hst,hfo]
     exact Qg d _ _ gs.toList 0 cs1 ds1 r1 hge (by rw[t1];exact hx1) (by rw[t3];exact hy1) q1
    ·cases hok
   ·cases hok
theorem X1{T:TypeId}{n:List Bool}(h:Rl P T=some n):∃ fs:Array Field,P.underlying T=some (.struct fs)∧P.eqGuardType P.depth T=false∧P.stoodInHeld T=false∧Of P fs.toList 0=some n:=by
 unfold Rl at h
 split at h
 ·rename_i fs hu
  split at h
  ·rename_i hok
   simp only[Aet,AgI]at hok
   exact⟨fs,hu,hok.1,hok.2,h⟩
  ·cases h
 ·cases h
theorem AMs(op:BinOp)(T:TypeId)(x y:Operand)(T':TypeId):Claim P E (.binOp op T x y T'):=by
 intro R ty ρ H fz slot k r h
 simp only[evalOp]at h
 split at h
 ·rename_i n hse
  split at h
  ·rename_i cs ds hcx hcy hag
   rw[Aet]at hag
   obtain⟨fs,hu,hgt,hst,hok⟩:=X1 hse
   have hfo:P.fieldsOf T=fs:=by simp[Program.fieldsOf,hu]
   have hrun:∀ (b:Bool),BJ n cs ds=some b→∀ (w:World) (F:Nat→Prop) (m:Mp) (ρc:Operand→Value),(∀ x,Rep w F m H (ρ x) (ρc x)) →
     ∃ vs us,ρc x = .agg vs∧ρc y = .agg us∧(Op.equalIn 10000 T (.agg vs) (.agg us)).run P w = .ok b w:=by
    intro b hb w F m ρc hr
    obtain⟨vs,e1⟩:=Mq hag.1 (hr x)
    obtain⟨us,e2⟩:=Mq hag.2 (hr y)
    have r1:=cells?_ok hcx (hr x)
    have r2:=cells?_ok hcy (hr y)
    rw[e1]at r1
    rw[e2]at r2
    refine⟨vs,us,e1,e2,?_⟩
    rw[run_equalIn_agg w 9999 T vs us (by rw[hfo];exact hu) hst,hfo]
    exact AQ6 9997 vs us fs.toList 0 n cs ds b hok (by simpa [Value.cells]using r1) (by simpa [Value.cells]using r2) hb
   split at h
   ·rename_i b hb
    refine⟨_,_,h,fun R' k'=>by simp only[evalOp,hse,hcx,hcy,hag.1,hag.2,AgB,hb],AS fun w F m ρc o hop hty hi hr=>⟨.bool b,?_,BV _⟩⟩
    obtain⟨vs,us,e1,e2,e3⟩:=hrun b hb w F m ρc hr
    simp[execOp,hop,e1,e2,run_eqGuard_agg w _ T x y vs us hgt,run_eql_struct w T vs us,e3]
   ·rename_i b hb
    refine⟨_,_,h,fun R' k'=>by simp only[evalOp,hse,hcx,hcy,hag.1,hag.2,AgB,hb],AS fun w F m ρc o hop hty hi hr=>⟨.bool (!b),?_,BV _⟩⟩
    obtain⟨vs,us,e1,e2,e3⟩:=hrun b hb w F m ρc hr
    simp[execOp,hop,e1,e2,run_eqGuard_agg w _ T x y vs us hgt,run_neq_struct w T vs us,e3]
   ·cases h
  ·cases h
 rename_i hse
 split at h
 ·rename_i j a j' b hx hy
  split at h
  ·split at h
   ·rename_i n hn
    refine⟨_,_,h,fun R' k'=>by simp only[evalOp,hse,hx,hy,hn],AS fun w F m ρc o hop hty hi hr=>⟨.int j n,?_,Ay _ _⟩⟩
    have e1:=A8 (hx▸hr x);have e2:=A8 (hy▸hr y)
    rw[YI]at hn;unfold WS at hn
    split at hn
    ·cases hn
    ·simp only[Aep]at hn;subst hn
     simp[execOp,GN,binOp,Op.shift, *]
   ·cases h
  ·split at h
   ·rename_i n hn
    refine⟨_,_,h,fun R' k'=>by simp only[evalOp,hse,hx,hy,hn],AS fun w F m ρc o hop hty hi hr=>⟨.int j n,?_,Ay _ _⟩⟩
    have e1:=A8 (hx▸hr x);have e2:=A8 (hy▸hr y)
    rw[AOR]at hn;unfold ACL at hn
    split at hn
    ·cases hn
    ·simp only[Aep]at hn;subst hn
     simp[execOp,GN,binOp,Op.shift, *]
   ·cases h
  ·split at h
   ·rename_i hj
    split at h
    ·rename_i n hn
     refine⟨_,_,h,fun R' k'=>by simp only[evalOp,hse,hx,hy,hn,hj],AS fun w F m ρc o hop hty hi hr=>⟨.int j n,?_,Ay _ _⟩⟩
     have e1:=A8 (hx▸hr x);have e2:=A8 (hy▸hr y)
     simp only[Aer]at hj;subst hj
     rw[Rz]at hn;unfold R0 at hn
     split at hn
     ·cases hn
     ·simp only[Aep]at hn;subst hn
      simp[execOp,GN,binOp,Op.intDiv, *]
    ·cases h
   ·cases h
  ·split at h
   ·rename_i hj
    split at h
    ·rename_i n hn
     refine⟨_,_,h,fun R' k'=>by simp only[evalOp,hse,hx,hy,hn,hj],AS fun w F m ρc o hop hty hi hr=>⟨.int j n,?_,Ay _ _⟩⟩
     have e1:=A8 (hx▸hr x);have e2:=A8 (hy▸hr y)
     simp only[Aer]at hj;subst hj
     rw[AGO]at hn;unfold Yk at hn
     split at hn
     ·cases hn
     ·simp only[Aep]at hn;subst hn
      simp[execOp,GN,binOp,Op.intDiv, *]
    ·cases h
   ·cases h
  ·rename_i h1 h2 h3 h4
   split at h
   ·rename_i v hj hv
    refine⟨_,_,h,fun R' k' => ?_,AS fun w F m ρc o hop hty hi hr => ?_⟩
    ·simp only[evalOp,hse,hx,hy]
     cases op<;>first|exact absurd rfl h1|exact absurd rfl h2|exact absurd rfl h3|exact absurd rfl h4|simp only[hj,hv]
    ·have e1:=A8 (hx▸hr x);have e2:=A8 (hy▸hr y)
     simp only[Aer]at hj;subst hj
     obtain⟨u,q1,q2⟩:=AOc (P:=P) hv T w
     exact⟨u,by simp[execOp,hop,e1,e2,GN,q1],q2 _ _ _⟩
   ·cases h
 ·rename_i a b hx hy
  split at h
  ·rename_i hu
   refine⟨_,_,h,fun R' k'=>by simp only[evalOp,hse,hx,hy,hu],AS fun w F m ρc o hop hty hi hr=>⟨.bool (a==b),?_,BV _⟩⟩
   have e1:=Cl (hx▸hr x);have e2:=Cl (hy▸hr y)
   simp[execOp,hop,e1,e2,Qf,run_eql_bool w T a b hu]
  ·rename_i hu
   refine⟨_,_,h,fun R' k'=>by simp only[evalOp,hse,hx,hy,hu],AS fun w F m ρc o hop hty hi hr=>⟨.bool (!(a==b)),?_,BV _⟩⟩
   have e1:=Cl (hx▸hr x);have e2:=Cl (hy▸hr y)
   simp[execOp,hop,e1,e2,Qf,run_neq_bool w T a b hu]
  ·cases h
 ·rename_i a b hx hy
  have hstr:∀ {w:World} {F:Nat→Prop} {m:Mp} {ρc:Operand→Value},(∀ x,Rep w F m H (ρ x) (ρc x))→∃ s s',ρc x = .string s∧ρc y = .string s'∧(s.toList==s'.toList)=seq? a b:=by
   intro w F m ρc hr
   have r1:=hx▸hr x
   have r2:=hy▸hr y
   unfold Rep at r1 r2
   obtain⟨s,e1,rfl⟩:=r1
   obtain⟨s',e2,rfl⟩:=r2
   refine⟨s,s',e1,e2,?_⟩
   rw[seq_eq];exact(AMw s s').symm
  split at h
  ·refine⟨_,_,h,fun R' k'=>by simp only[evalOp,hse,hx,hy],AS fun w F m ρc o hop hty hi hr=>⟨.bool (seq? a b),?_,BV _⟩⟩
   obtain⟨s,s',e1,e2,e3⟩:=hstr hr
   simp[execOp,hop,e1,e2,Qe,binOp_string_eql,e3]
  ·refine⟨_,_,h,fun R' k'=>by simp only[evalOp,hse,hx,hy],AS fun w F m ρc o hop hty hi hr=>⟨.bool (!(seq? a b)),?_,BV _⟩⟩
   obtain⟨s,s',e1,e2,e3⟩:=hstr hr
   simp[execOp,hop,e1,e2,Qe,binOp_string_neq,e3]
  ·cases h
 ·cases h
theorem ARZ(op:UnOp)(T:TypeId)(x:Operand):Claim P E (.unOp op T x):=by
 intro R ty ρ H fz slot k r h
 simp only[evalOp]at h
 split at h
 ·rename_i b hx
  refine⟨_,_,h,fun R' k'=>by simp only[evalOp,hx],AS fun w F m ρc o hop hty hi hr=>⟨.bool (!b),?_,BV _⟩⟩
  have e1:=Cl (hx▸hr x)
  simp[execOp,hop,e1,Op.unary]
 ·rename_i j n hx
  refine⟨_,_,h,fun R' k'=>by simp only[evalOp,hx],AS fun w F m ρc o hop hty hi hr=>⟨.int j (j.wrap (0-n)),?_,Ay _ _⟩⟩
  have e1:=A8 (hx▸hr x)
  simp[execOp,hop,e1,Op.unary,Op.intArith]
 ·cases h
theorem GK{T:TypeId}{j:IntKind}(h:Kk P T=some j):P.underlying T=some (.int j):=by
 unfold Kk at h
 split at h
 ·rename_i hu;simp only[Aep]at h;subst h;exact hu
 ·cases h
theorem ABQ(fn:Fn)(first cs:Array Operand):Claim P E (.makeFunc fn first cs):=by
 intro R ty ρ H fz slot k r h
 cases fn with
 |func f=>
  simp only[evalOp]at h
  split at h
  ·rename_i hf
   refine⟨_,_,h,fun R' k'=>by simp only[evalOp,hf],AS fun w F m ρc o hop hty hi hr=>⟨.func (.func f) #[] (cs.map ρc),?_,?_⟩⟩
   ·have:first = #[]:=by
     rw[← Array.toList_eq_nil_iff];exact hf
    subst this
    simp[execOp,hop,Instr.makeFunc]
   ·unfold Rep
    refine⟨_,rfl,?_⟩
    rw[AgF]
    exact DM (by simp) fun i c v hc hv=>by
     rw[Af4]at hc hv
     cases hx:cs.toList[i]? with
     |none=>rw[hx]at hc;cases hc
     |some x=>
      rw[hx]at hc hv
      cases hc;cases hv
      exact hr x
  ·rename_i y ys hf
   split at h
   ·rename_i hcs
    refine⟨_,_,h,fun R' k'=>by simp only[evalOp,hf,hcs],AS fun w F m ρc o hop hty hi hr=>⟨.func (.func f) (first.map ρc) #[],?_,?_⟩⟩
    ·have:cs = #[]:=by
      rw[← Array.toList_eq_nil_iff];exact hcs
     subst this
     simp[execOp,hop,Instr.makeFunc]
    ·unfold Rep
     refine⟨_,rfl,?_⟩
     rw[AgF,← hf]
     exact DM (by simp) fun i c v hc hv=>by
      rw[Af4]at hc hv
      cases hx:first.toList[i]? with
      |none=>rw[hx]at hc;cases hc
      |some x=>
       rw[hx]at hc hv
       cases hc;cases hv
       exact hr x
   ·cases h
 |_=>simp[evalOp]at h
theorem AC9(T:TypeId)(o:Option Operand):Claim P E (.makeMap T o):=by
 intro R ty ρ H fz slot k r h
 cases o with
 |some x=>simp[evalOp]at h
 |none=>
  simp only[evalOp]at h
  split at h
  ·rename_i a b hu
   split at h
   ·rename_i j e t hE hj hsl
    split at h
    ·rename_i hf
     refine⟨_,_,h,fun R' k'=>by simp only[evalOp,hu,hE,hj,hsl,hf],A2 fun w F m ρc o hop hty hi hr => ?_⟩
     obtain⟨_,_,hpos⟩:=Bs hsl
     have hg:=Ap.AeU (w':=w.alloc (.map #[] 0)) hi hf (T:=.map j []) (e:=e) (t:=t) (n:=0) (some (w.heap.size,0)) rfl rfl rfl (by simp) (fun b hb=>Below.heap_alloc w _ b hb)
      (fun b c h=>by cases h;exact Aez _) hpos
      ⟨hpos,#[],0,heap_alloc_new w _,⟨rfl,fun i e h=>by simp at h⟩,rfl,.inl rfl,fun k h=>by cases h⟩
      (fun k hk=>absurd hk (Nat.not_lt_zero k))
     refine⟨.map (some w.heap.size),_,F,_,by simp[execOp,hop,Instr.makeMap],hg,?_⟩
     unfold Rep
     have hlt:=Al (BL hf).1
     rw[show CP { objs:=[(slot,.rows (.map j []) e t [] 0 none)] } H=H.set slot (.rows (.map j []) e t (List.replicate 0 ([]:List t.den)) 0 none)from rfl,Au hlt,KC]
     exact⟨_,_,rfl,rfl⟩
    ·cases h
   rename_i hno
   split at h
   ·rename_i ta tb ha hb
    split at h
    ·rename_i hf
     refine⟨_,_,h,fun R' k'=>by simp only[evalOp,hu,ha,hb,hf],A2 fun w F m ρc o hop hty hi hr => ?_⟩
     have hg:=Ap.new (w':=w.alloc (.map #[] 0)) hi hf (ob:=.map ta tb []) trivial (some (w.heap.size,0)) rfl rfl rfl (by simp) (fun b hb=>Below.heap_alloc w _ b hb)
      (fun b c h=>by cases h;exact Aez _)
      (fun _=>⟨w.heap.size,0,#[],0,rfl,heap_alloc_new w _,rfl,rfl,fun i e h=>by simp at h⟩)
     refine⟨.map (some w.heap.size),_,F,_,by simp[execOp,hop,Instr.makeMap],hg,?_⟩
     unfold Rep
     have hlt:=Al (BL hf).1
     rw[show CP { objs:=[(slot,.map ta tb [])] } H=H.set slot (.map ta tb [])from rfl,Au hlt,Aq]
     exact⟨_,_,rfl,rfl⟩
    ·cases h
   ·cases h
  ·cases h
theorem AQF(b:Bool)(t:Ty):zeroCells (t.made b)=zeroCells t:=by
 cases t<;>cases b<;>rfl
theorem AVl(b:Bool)(t:Ty):(t.made b).size=t.size:=by
 cases t<;>cases b<;>rfl
theorem Wn(T:TypeId)(x y:Operand):Claim P E (.makeSlice T x y):=by
 intro R ty ρ H fz slot k r h
 simp only[evalOp]at h
 split at h
 ·rename_i e t hsl
  split at h
  ·rename_i zz j l j' c hz hx hy
   split at h
   ·rename_i hfit
    split at h
    ·rename_i hf
     refine⟨_,_,h,fun R' k'=>by simp only[evalOp,hsl,hz,hx,hy,hfit,hf],A2 fun w F m ρc o hop hty hi hr => ?_⟩
     obtain⟨hu,hty0,hpos⟩:=Bs hsl
     obtain⟨t',cs'⟩:=zz
     obtain⟨hty',hcs',i,z,hi0,hz0,hok,hsz,hza⟩:=Bn hz
     subst hcs'
     have:t'=t:=by rw[hty0]at hty';exact(Afs hty').symm
     subst this
     simp only[Aet,NS,Az,Aer,hi0,Ag3,AfN]at hfit
     obtain⟨⟨⟨⟨a1,a2⟩,a3,a4⟩,a5⟩,a6⟩:=hfit
     have e1:=A8 (hx▸hr x);have e2:=A8 (hy▸hr y)
     obtain⟨l',rfl⟩:=Ae1 a1
     obtain⟨c',rfl⟩:=Ae1 a3
     have hbb:(i.bytes:Int)*(c':Int)≤281474976710656:=by
      have:i.bytes*c'≤65536*4294967296:=AhA a6 (by omega)
      have h2:((i.bytes*c':Nat):Int)≤281474976710656:=by omega
      rwa [Int.natCast_mul]at h2
     have hrun:=run_make (P:=P) w T e i z hu hi0 hz0 j j' l' c' a1 a5 hbb (by omega)
     simp only[Afn]at hrun
     have a5':(l':Int)≤(c':Int):=a5
     have a4':(c':Int)≤4294967296:=a4
     have hle:l'≤c':=by omega
     cases hrw:(match E.rows,sliceAt P e with|true,some q=>some q|_,_=>none)with
     |some q=>
      obtain⟨er,t2⟩:=q
      have hme:Oi P E e t' (AK (l':Int)) = .rows (.arr e) er t2 (List.replicate l' []) 0 none:=by
       unfold Oi
       split at hrw
       ·rename_i q' h1 h2
        cases hrw
        rw[h1,h2];rfl
       ·cases hrw
      have hs2:sliceAt P e=some (er,t2):=by
       split at hrw
       ·rename_i q' h1 h2;cases hrw;exact h2
       ·cases hrw
      obtain⟨hu2,hty2,hpos2⟩:=Bs hs2
      have htt:∃ y,t' = .slice y:=by
       unfold AE7 WQ at hty0
       rw[hu2]at hty0
       simp only[Ae4]at hty0
       obtain⟨y,_,rfl⟩:=hty0
       exact⟨y,rfl⟩
      obtain⟨y,rfl⟩:=htt
      have hz1:z.cells.toList=[.slice none 0 0]:=by
       have:=Ba (w:=w) (F:=F) (.nul y) _ hok
       exact this
      have hsz1:i.size=1:=hsz
      have hzl:z.cells.size=1:=by rw[← Ae7,hz1];rfl
      have hmade:(madeCells z.cells (c'*i.size)).toList=List.replicate c' (.slice none 0 0):=by
       have:=Cm z.cells c'
       rw[hzl,AhL]at this
       rw[hsz1,AhL]
       have h2:(madeCells z.cells c').toList=(List.replicate c' z.cells.toList).flatten:=by unfold madeCells;rw[hzl];exact this
       rw[h2,hz1]
       simp
      have hhp:=heap_alloc_new w (.cells (madeCells z.cells (c'*i.size)) e)
      have hg:=Ap.AeU (w':=w.alloc (.cells (madeCells z.cells (c'*i.size)) e)) hi hf (T:=.arr e) (e:=er) (t:=t2) (n:=l') (some (w.heap.size,c')) rfl rfl rfl (by simp) (fun b hb=>Below.heap_alloc w _ b hb)
       (fun b c h=>by cases h;exact Aez _) hpos2
       ⟨hpos2,_,hhp,by rw[Afu];exact hle,by simp only[maxLen];omega,by rw[size_madeCells,hsz1,AhL],fun u hu=>by
        rw[hmade]at hu
        rw[Agb hu];rfl⟩
       (fun k hk=>⟨_,_,none,rfl,_,hhp,by rw[hmade,AhE,Ae6 (by omega)]⟩)
      refine⟨.slice (some ⟨w.heap.size,0,none⟩) l' c',w.alloc (.cells (madeCells z.cells (c'*i.size)) e),F,(Ni m slot (some (w.heap.size,c')) fun _=>none),by simp[execOp,hop,e1,e2,hrun],(?_:Ap w F m H fz (w.alloc (.cells (madeCells z.cells (c'*i.size)) e)) F (Ni m slot (some (w.heap.size,c')) fun _=>none) (H.set slot (Oi P E e (.slice y) (AK (l':Int)))) fz),?_⟩
      ·rw[hme];exact hg
      ·show Rep _ _ _ (H.set slot (Oi P E e (.slice y) (AK (l':Int)))) _ _
       rw[hme]
       unfold Rep
       rw[Au (Al (BL hf).1),KC]
       simp only[A6,Afu]
     |none=>
     have hme:Oi P E e t' (AK (l':Int)) = .arr e (t'.made E.keep) (Dy (AK (l':Int)) (t'.made E.keep).zero):=by
      unfold Oi
      split
      ·rename_i h1 h2;rw[h1,h2]at hrw;cases hrw
      ·rfl
     rw[hme]
     rw[← AQF E.keep t']at hok
     rw[← AVl E.keep t']at hpos hsz
     generalize t'.made E.keep=t' at *
     have hzd:=Ba (w:=w) (F:=F) t' _ hok
     have hzl:z.cells.size=t'.size:=by rw[← Ae7];exact Dat.length t' hzd
     have hmade:(madeCells z.cells (c'*i.size)).toList=(List.replicate c' z.cells.toList).flatten:=by
      have:=Cm z.cells c'
      rw[hzl,← hsz]at this
      exact(by unfold madeCells;rw[hzl,← hsz];exact this)
     have hrow:=Ec (w:=w) (F:=F) hzd l'
     have hrl:=A3 (fun x cs (h:Dat w F t' x cs)=>Dat.length t' h) hrow
     rw[Afu]at hrl
     obtain⟨m',hg,hrep⟩:=En hi hf (w':=w.alloc (.cells (madeCells z.cells (c'*i.size)) e)) hpos (xs:=List.replicate l' t'.zero) (heap_alloc_new w _) rfl rfl rfl (by simp) (fun b hb=>Below.heap_alloc w _ b hb)
      (cap:=c') (by simpa using hle) (by simp only[maxLen];omega) (by rw[size_madeCells,hsz]) hrow (by
       rw[hmade,hrl]
       have:c'=l'+(c'-l'):=by omega
       rw[this,← List.replicate_append_replicate,List.flatten_append,Agp,Afg (by rw[hrl];omega),hrl]
       simp)
     rw[Afu]at hrep
     exact⟨_,_,F,m',by simp[execOp,hop,e1,e2,hrun],hg,hrep⟩
    ·cases h
   ·cases h
  ·cases h
 ·cases h
end
end Go.Pev
end
section
namespace Go.Pev
open Go.RowKit
section
variable {P:Program} {E:Env}
theorem G2{α:Type}{xs ys:List α}{l h:Int}(e:CO xs l h=some ys):0≤l∧l≤h∧h≤xs.length∧ys=(xs.take h.toNat).drop l.toNat:=by
 rw[W0]at e
 unfold Nr at e
 split at e
 ·rename_i hc;simp only[Aep]at e;exact⟨hc.1,hc.2.1,hc.2.2,e.symm⟩
 ·cases e
theorem Aj{α:Type}{xs:List α}{i:Int}{x:α}(e:idx xs i=some x):0≤i∧i<xs.length∧xs[i.toNat]? = some x:=by
 rw[idx_eq]at e
 unfold Oy at e
 split at e
 ·cases e
 ·rename_i hc
  have:=(Afy.1 e).1
  exact⟨by omega,by omega,e⟩
theorem Ko{w:World}{F:Nat→Prop}{m:Mp}{H:List Ob}{v:AV}{n:Int}(h:AEJ v=some n){u:Value}(hr:Rep w F m H v u):∃ k,u = .int k n:=by
 unfold AEJ at h
 split at h
 ·simp only[Aep]at h;subst h;exact⟨_,A8 hr⟩
 ·cases h
theorem MN{w:World}{F:Nat→Prop}{m:Mp}{H:List Ob}{ρ:Operand→AV}{ρc:Operand→Value}(hr:∀ x,Rep w F m H (ρ x) (ρc x)){o:Option Operand}{l:Option Int}(h:EA ρ o=some l):
  (o.map ρc=none∧l=none)∨∃ k n,o.map ρc=some (.int k n)∧l=some n:=by
 unfold EA at h
 split at h
 ·simp only[Aep]at h;exact .inl ⟨rfl,h.symm⟩
 ·rename_i x
  simp only[Ae4]at h
  obtain⟨n,h1,rfl⟩:=h
  obtain⟨k,h2⟩:=Ko h1 (hr x)
  exact .inr ⟨k,n,by simp[h2],rfl⟩
theorem DE{w:World}{T e:TypeId}{i:TypeInfo}(hu:P.underlying T=some (.slice e))(hi:P.info? e=some i)(a:Option Addr)(len cap:Nat){lo hi':Option Value}{l h:Int}
  (hlo:(lo=none∧l=0)∨∃ k,lo=some (.int k l)) (hhi:(hi'=none∧h=len)∨∃ k,hi'=some (.int k h)) (h0:0≤l) (h1:l≤h) (h2:h≤cap) (h3:len≤cap) :
  (Instr.sliceAt T (.slice a len cap) lo hi' none).run P w = .ok (.slice (if cap=l.toNat then a else a.map (·.add (l.toNat*i.size))) (h.toNat-l.toNat) (cap-l.toNat)) w:=by
 have hb:(Instr.sliceBounds true len cap lo hi' none).run P w = .ok (l.toNat,h.toNat,cap) w:=by
  obtain⟨l,rfl⟩:=Ae1 h0
  obtain⟨h,rfl⟩:=Ae1 (show 0≤h by omega)
  have h1:l≤h:=by omega
  have h2:h≤cap:=by omega
  rcases hhi with⟨rfl,e1⟩|⟨k,rfl⟩<;>rcases hlo with⟨rfl,e2⟩|⟨k',rfl⟩
  ·have e3:l=0:=by omega
   have e4:h=len:=by omega
   subst e3;subst e4
   simp[Instr.sliceBounds]
  ·have e4:h=len:=by omega
   subst e4
   simp[Instr.sliceBounds,Instr.sliceBound,asIntOf,h1]
  ·have e3:l=0:=by omega
   subst e3
   simp[Instr.sliceBounds,Instr.sliceBound,asIntOf,h2]
  ·simp[Instr.sliceBounds,Instr.sliceBound,asIntOf,h1,h2]
 simp only[Instr.sliceAt,Sem.run_bind,run_underlying hu,Result.andThen_ok,Instr.slice,hb,run_sizeOf hi,Sem.run_pure]
theorem YY{w:World}(n:Nat){lo hi':Option Value}{l h:Int}
  (hlo:(lo=none∧l=0)∨∃ k,lo=some (.int k l)) (hhi:(hi'=none∧h=n)∨∃ k,hi'=some (.int k h)) (h0:0≤l) (h1:l≤h) (h2:h≤n) :
  (Instr.sliceBounds false n n lo hi' none).run P w = .ok (l.toNat,h.toNat,n) w:=by
 obtain⟨l,rfl⟩:=Ae1 h0
 obtain⟨h,rfl⟩:=Ae1 (show 0≤h by omega)
 have h1:l≤h:=by omega
 have h2:h≤n:=by omega
 rcases hhi with⟨rfl,e1⟩|⟨k,rfl⟩<;>rcases hlo with⟨rfl,e2⟩|⟨k',rfl⟩
 ·have e3:l=0:=by omega
  have e4:h=n:=by omega
  subst e3;subst e4
  simp[Instr.sliceBounds]
 ·have e4:h=n:=by omega
  subst e4
  simp[Instr.sliceBounds,Instr.sliceBound,asIntOf,h1]
 ·have e3:l=0:=by omega
  subst e3
  simp[Instr.sliceBounds,Instr.sliceBound,asIntOf,h2]
 ·simp[Instr.sliceBounds,Instr.sliceBound,asIntOf,h1,h2]
theorem Ol{w:World}{F:Nat→Prop}{m:Mp}{H:List Ob}{ρ:Operand→AV}{ρc:Operand→Value}(hr:∀ x,Rep w F m H (ρ x) (ρc x)){o:Option Operand}{l:Option Int}(h:EA ρ o=some l)(d:Int):
  (o.map ρc=none∧l.getD d=d)∨∃ k,o.map ρc=some (.int k (l.getD d)):=by
 rcases MN hr h with⟨h1,rfl⟩|⟨k,n,h1,rfl⟩
 ·exact .inl ⟨h1,rfl⟩
 ·exact .inr ⟨k,h1⟩
theorem EB{w w':World}{ρc:Operand→Value}{o:Oper}{T:TypeId}{x:Operand}{lo up:Option Operand}{v u:Value}(hop:o.op = .slice T x lo up none)(e1:ρc x=v)
  (hrun:(Instr.sliceAt T v (lo.map ρc) (up.map ρc) none).run P w = .ok u w'):(execOp ρc o).run P w = .ok (.value u) w':=by simp[execOp,hop,e1,hrun]
theorem TV(T:TypeId)(x:Operand)(lo up:Option Operand):Claim P E (.slice T x lo up none):=by
 intro R ty ρ H fz slot k r h
 simp only[evalOp]at h
 split at h
 ·rename_i e hu
  split at h
  ·rename_i l h' hl hh
   unfold Fp at h
   split at h
   ·rename_i t xs hx
    split at h
    ·rename_i hsz
     split at h
     ·cases h
     ·rename_i ys hs
      refine⟨_,_,h,fun R' k'=>by simp only[evalOp,hu,hl,hh,Fp,hx,hsz,hs],AS fun w F m ρc o hop hty hi hr => ?_⟩
      obtain⟨a1,a2,a3,rfl⟩:=G2 hs
      simp only[Aer]at hsz
      obtain⟨i,hi0,hsz'⟩:=BC hsz
      have hrx:=hr x
      rw[hx]at hrx
      have hrx:Dat w F (.slice t) xs [ρc x]:=hrx
      obtain⟨a,cap,e1,e2,e3⟩:=hrx
      simp only[AfC,AhV]at e1
      have hrun:=DE (P:=P) (w:=w) hu hi0 a (List.length (α:=t.den) xs) cap (Ol hr hl 0) (Ol hr hh (AH xs)) a1 a2 (by omega) e2
      refine⟨_,EB hop e1 hrun,?_⟩
      have hlen:((xs.take (h'.getD (AH xs)).toNat).drop (l.getD 0).toNat).length=(h'.getD (AH xs)).toNat-(l.getD 0).toNat:=by
       rw[AfW,Ae8];omega
      show Dat w F (.slice t) _ [_]
      refine⟨_,_,by rw[hlen],by rw[hlen];omega,fun hne => ?_⟩
      have hpos:(l.getD 0).toNat<(h'.getD (AH xs)).toNat:=by
       rcases Afa (l.getD 0).toNat (h'.getD (AH xs)).toNat with hh'|hh'
       ·exact hh'
       ·exact absurd (AfA (by rw[hlen];omega)) hne
      have hxne:xs≠[]:=by rintro rfl;simp at hne
      obtain⟨ad,row,q1,q2,q3,q4⟩:=e3 hxne
      have hk:=fun(x:t.den) cs (h:Dat w F t x cs)=>Dat.length t h
      refine⟨ad.add ((l.getD 0).toNat*t.size),_,?_,by rw[HB];exact q2,G5 hk (l.getD 0).toNat (Df hk (h'.getD (AH xs)).toNat q3),fun j u hu' => ?_⟩
      ·rw[Ae3 (by omega),q1,hsz'];rfl
      ·rw[add_add]
       rw[Afo,Afd]at hu'
       split at hu'
       ·exact q4 _ u hu'
       ·cases hu'
    ·cases h
   ·rename_i t hx
    split at h
    ·rename_i hss
     split at h
     ·rename_i ys hs
      refine⟨_,_,h,fun R' k'=>by simp only[evalOp,hu,hl,hh,Fp,hx,hss,hs],AS fun w F m ρc o hop hty hi hr => ?_⟩
      obtain⟨a1,a2,a3,_⟩:=G2 hs
      obtain⟨sz,hsz⟩:=AgE.1 hss
      obtain⟨i,hi0,hsz'⟩:=BC hsz
      have hrx:=hr x
      rw[hx]at hrx
      unfold Rep at hrx
      simp only[AfI]at a3
      have hrun:=DE (P:=P) (w:=w) hu hi0 none 0 0 (Ol hr hl 0) (Ol hr hh 0) a1 a2 a3 (Aez _)
      refine⟨_,EB hop hrx hrun,?_⟩
      unfold Rep
      have h1:(l.getD 0).toNat=0:=by omega
      have h2:(h'.getD 0).toNat=0:=by omega
      rw[h1,h2];rfl
     ·cases h
    ·cases h
   ·rename_i id hx
    split at h
    ·rename_i T' t xs ho
     split at h
     ·rename_i hsz
      split at h
      ·cases h
      ·rename_i ys hs
       refine⟨_,_,h,fun R' k'=>by simp only[evalOp,hu,hl,hh,Fp,hx,ho,hsz,hs],AS fun w F m ρc o hop hty hi hr => ?_⟩
       obtain⟨a1,a2,a3,rfl⟩:=G2 hs
       simp only[Aer]at hsz
       obtain⟨i,hi0,hsz'⟩:=BC hsz
       have hrx:=hr x
       rw[hx]at hrx
       unfold Rep at hrx
       rw[ho]at hrx
       have hlen:((xs.take (h'.getD (AH xs)).toNat).drop (l.getD 0).toNat).length=(h'.getD (AH xs)).toNat-(l.getD 0).toNat:=by
        rw[AfW,Ae8];omega
       obtain⟨hpos,hob⟩:=hi.obj id _ ho
       cases hm:m id with
       |none=>
        rw[hm]at hrx hob
        obtain⟨a,e1⟩:=hrx
        simp only at hob;subst hob
        have hrun:=DE (P:=P) (w:=w) hu hi0 a 0 0 (Ol hr hl 0) (Ol hr hh (AH ([]:List t.den))) a1 a2 (by simpa using a3) (Aez _)
        refine⟨_,EB hop e1 hrun,?_⟩
        unfold Rep
        rw[ho,hm]
        simp only[AfI]at a3
        have q1:(l.getD 0).toNat=0:=by omega
        have q2:(h'.getD (AH ([]:List t.den))).toNat=0:=by omega
        rw[q1,q2]
        exact And.intro (by simp[AK,q1,AH]) ⟨_,by simp[AK,AH];rfl⟩
       |some p=>
        obtain⟨b,cap⟩:=p
        rw[hm]at hrx hob
        obtain⟨vs,row,e1,e2,_⟩:=hob
        simp only[A6]at hrx
        have hrun:=DE (P:=P) (w:=w) hu hi0 (some ⟨b,0,none⟩) (List.length (α:=t.den) xs) cap (Ol hr hl 0) (Ol hr hh (AH xs)) a1 a2 (by omega) e2
        refine⟨_,EB hop hrx hrun,?_⟩
        unfold Rep
        rw[ho,hm]
        have q:AK (AH ((xs.take (h'.getD (AH xs)).toNat).drop (l.getD 0).toNat))=(h'.getD (AH xs)).toNat-(l.getD 0).toNat:=by
         unfold AK AH;rw[Afn];exact hlen
        rw[q]
        refine⟨by unfold AK;omega,_,rfl,fun hlt => ?_⟩
        unfold AK at hlt ⊢
        rw[Ae3 (by omega),← hsz']
        simp[B8]
     ·cases h
    ·cases h
   ·rename_i id off n hx
    split at h
    ·rename_i T' t xs ho
     split at h
     ·rename_i hsz
      split at h
      ·cases h
      ·rename_i ys hs
       refine⟨_,_,h,fun R' k'=>by simp only[evalOp,hu,hl,hh,Fp,hx,ho,hsz,hs],AS fun w F m ρc o hop hty hi hr => ?_⟩
       obtain⟨a1,a2,a3,rfl⟩:=G2 hs
       simp only[Aer]at hsz
       obtain⟨i,hi0,hsz'⟩:=BC hsz
       have hrx:=hr x
       rw[hx]at hrx
       unfold Rep at hrx
       rw[ho]at hrx
       obtain⟨hle,hrx⟩:=hrx
       have hcl:(DI off n xs).length=n:=by unfold DI;rw[Ae8,AfW];omega
       rw[hcl]at a3
       have q:AK (AH (((DI off n xs).take (h'.getD (n:Int)).toNat).drop (l.getD 0).toNat))=(h'.getD (n:Int)).toNat-(l.getD 0).toNat:=by
        unfold AK AH;rw[Afn,AfW,Ae8,hcl];omega
       obtain⟨hpos,hob⟩:=hi.obj id _ ho
       cases hm:m id with
       |none=>
        rw[hm]at hrx hob
        obtain⟨a,e1⟩:=hrx
        simp only at hob;subst hob
        have hn:n=0:=by have:=hle;simp at this;exact this.2
        subst hn
        have hrun:=DE (P:=P) (w:=w) hu hi0 a 0 0 (Ol hr hl 0) (Ol hr hh ((0:Nat):Int)) a1 a2 a3 (Aez _)
        refine⟨_,EB hop e1 hrun,?_⟩
        unfold Rep
        rw[ho,hm,q]
        have q1:(l.getD 0).toNat=0:=by omega
        have q2:(h'.getD ((0:Nat):Int)).toNat=0:=by omega
        have hoff:off=0:=by have:=hle;simpa using this
        rw[q1,q2]
        exact And.intro (by simp[AK,q1,hoff]) ⟨_,by simp;rfl⟩
       |some p=>
        obtain⟨b,cap⟩:=p
        rw[hm]at hrx hob
        obtain⟨vs,row,e1,e2,_⟩:=hob
        obtain⟨a,e3,e4⟩:=hrx
        have hrun:=DE (P:=P) (w:=w) hu hi0 a n (cap-off) (Ol hr hl 0) (Ol hr hh (n:Int)) a1 a2 (by omega) (by omega)
        refine⟨_,EB hop e3 hrun,?_⟩
        unfold Rep
        rw[ho,hm,q]
        refine And.intro (by unfold AK;omega) ⟨if cap-off=(l.getD 0).toNat then a else a.map (·.add ((l.getD 0).toNat*i.size)),?_,fun hlt => ?_⟩
        ·unfold AK;congr 1;omega
        ·unfold AK at hlt ⊢
         rw[Ae3 (by omega),e4 (by omega),hsz']
         simp[B8,Afp]
     ·cases h
    ·cases h
   ·cases h
  ·cases h
 ·rename_i n e hu
  split at h
  ·rename_i l h' id n' hmx hl hh hx
   split at h
   ·rename_i T' t xs ho
    split at h
    ·rename_i hc
     split at h
     ·cases h
     ·rename_i ys hs
      refine⟨_,_,h,fun R' k'=>by simp only[evalOp,hu,hl,hh,hx,ho,hc,hs],AS fun w F m ρc o hop hty hi hr => ?_⟩
      obtain⟨a1,a2,a3,rfl⟩:=G2 hs
      simp only[Aet,Aer]at hc
      obtain⟨rfl,hsz⟩:=hc
      obtain⟨i,hi0,hsz'⟩:=BC hsz
      have hrx:=hr x
      rw[hx]at hrx
      unfold Rep E0 at hrx
      rw[ho]at hrx
      obtain⟨hlen,b,hm,e1⟩:=hrx
      have hb:=YY (P:=P) (w:=w) n' (Ol hr hl 0) ((Ol hr hh (AH xs)).imp (fun q=>⟨q.1,q.2.trans (by unfold AH;rw[hlen])⟩) (fun q=>q)) a1 a2 (by omega)
      refine⟨_,EB hop e1 (by simp only[Instr.sliceAt,Sem.run_bind,run_underlying hu,Result.andThen_ok,Instr.sureAddr,hb,run_sizeOf hi0,Sem.run_pure];rfl),?_⟩
      unfold Rep
      rw[ho,hm]
      have q:AK (AH ((xs.take (h'.getD (AH xs)).toNat).drop (l.getD 0).toNat))=(h'.getD (AH xs)).toNat-(l.getD 0).toNat:=by
       unfold AK;generalize h'.getD (AH xs)=hh' at a2 a3 ⊢;unfold AH;rw[Afn,AfW,Ae8];omega
      rw[q]
      refine And.intro (by unfold AK;omega) ⟨_,rfl,fun hlt => ?_⟩
      unfold AK at hlt ⊢
      rw[Ae3 (by omega),hsz',B8,Afq]
    ·cases h
   ·cases h
  ·cases h
 ·cases h
end
end Go.Pev
end
