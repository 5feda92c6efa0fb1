/- A part of the proofs of this seat: ALIAS PevGlob PevDefs PevEval PevLoop PevSem PevStep PevConv PevRun PevOps PevPrs0 PevRows PevOps2 PevOps3 PevOps4 PevOps5 PevOps6. -/
import Derived.Calls
import Derived.Laws.Sem
import Derived.Orders
import Derived.Below
import Derived.Laws.AppendOwn
import Derived.Laws.Entries
import Derived.Maps.AppendAt
import Derived.Laws.Small
import Derived.Laws.StructEq
import Derived.WideLaws
set_option linter.unusedVariables false
set_option linter.unusedSimpArgs false
set_option linter.unusedSectionVars false
set_option maxRecDepth 100000
section
namespace Go.Pev
abbrev AXZ:=@decide_eq_false
abbrev AXa:=@Option.some.injEq
abbrev AXb:=@decide_eq_true
abbrev AXc:=@decide_eq_true_eq
abbrev AXd:=@Bool.and_eq_true
abbrev AXe:=@List.getD_eq_getElem?_getD
abbrev AXf:=@List.mem_cons
abbrev AXg:=@List.length_cons
abbrev AXh:=@Bool.not_true
abbrev AXi:=@decide_true
abbrev AXj:=@List.getElem?_eq_getElem
abbrev AXk:=@List.mem_of_getElem?
abbrev AXl:=@Nat.le_refl
abbrev AXm:=@Option.map_eq_some_iff
abbrev AXn:=@List.length_append
abbrev AXo:=@if_neg
abbrev AXp:=@if_pos
abbrev AXq:=@List.mem_append
abbrev AXr:=@Int.eq_ofNat_of_zero_le
abbrev AXs:=@List.length_nil
abbrev AXt:=@Prod.mk.injEq
abbrev AXu:=@decide_false
abbrev AXv:=@if_false
abbrev AXw:=@Bool.false_eq_true
abbrev AXx:=@List.mem_cons_of_mem
abbrev AXy:=@List.all_eq_true
abbrev AXz:=@List.cons.injEq
abbrev AX0:=@Array.length_toList
abbrev AX1:=@List.length_range
abbrev AX2:=@List.nil_append
abbrev AX3:=@List.cons_append
abbrev AX4:=@List.map_cons
abbrev AX5:=@Option.getD_some
abbrev AX6:=@Array.getD_eq_getD_getElem?
abbrev AX7:=@List.eq_nil_of_length_eq_zero
abbrev AX8:=@List.nodup_cons
abbrev AX9:=@if_true
abbrev AYA:=@Option.bind_some
abbrev AYB:=@List.mem_singleton
abbrev AYC:=@Nat.eq_of_beq_eq_true
abbrev AYD:=@Nat.le_of_ble_eq_true
abbrev AYE:=@List.mem_map
abbrev AYF:=@List.getElem?_append_right
abbrev AYG:=@Int.toNat_natCast
abbrev AYH:=@List.drop_eq_getElem_cons
abbrev AYI:=@List.foldl_cons
abbrev AYJ:=@List.getElem?_eq_some_iff
abbrev AYK:=@List.take_append_drop
abbrev AYL:=@Bool.not_false
abbrev AYM:=@decide_eq_false_iff_not
abbrev AYN:=@List.getElem?_cons_zero
abbrev AYO:=@List.length_singleton
abbrev AYP:=@List.pairwise_cons
abbrev AYQ:=@Nat.zero_add
abbrev AYR:=@Option.bind_eq_some_iff
abbrev AYS:=@List.mem_range
abbrev AYT:=@Nat.mul_le_mul_right
abbrev AYU:=@List.length_map
abbrev AYV:=@Classical.byContradiction
abbrev AYW:=@Nat.mod_eq_of_lt
abbrev AYX:=@List.length_take
abbrev AYY:=@Array.getElem?_toList
abbrev AYZ:=@List.range_succ
abbrev AYa:=@List.drop_of_length_le
abbrev AYb:=@Bool.and_self
abbrev AYc:=@Option.isSome_iff_exists
abbrev AYd:=@not_true_eq_false
abbrev AYe:=@Bool.or_eq_true
abbrev AYf:=@List.append_nil
abbrev AYg:=@Nat.min_eq_left
abbrev AYh:=@congrArg
abbrev AYi:=@List.flatten_cons
abbrev AYj:=@Bool.not_eq_true'
abbrev AYk:=@List.size_toArray
abbrev AYl:=@Nat.lt_of_lt_of_le
abbrev AYm:=@Ne.symm
abbrev AYn:=@List.length_drop
abbrev AYo:=@List.getElem?_set_ne
abbrev AYp:=@List.getElem_mem
abbrev AYq:=@Int.tdiv_eq_ediv_of_nonneg
abbrev AYr:=@Nat.add_mul
abbrev AYs:=@List.getElem_of_mem
abbrev AYt:=@Array.getElem?_eq_getElem
abbrev AYu:=@List.getElem?_append_left
abbrev AYv:=@List.length_replicate
abbrev AYw:=@Nat.le_of_lt
abbrev AYx:=@Nat.le_trans
abbrev AYy:=@Array.toList_map
abbrev AYz:=@List.range'_succ
abbrev AY0:=@Nat.sub_self
abbrev AY1:=@beq_iff_eq
abbrev AY2:=@List.tail_cons
abbrev AY3:=@List.getLast?_concat
abbrev AY4:=@List.flatMap_cons
abbrev AY5:=@Option.map_some
abbrev AY6:=@List.mem_filter
abbrev AY7:=@List.take_of_length_le
abbrev AY8:=@List.drop_one
abbrev AY9:=@List.not_mem_nil
abbrev AZA:=@List.drop_drop
abbrev AZB:=@Nat.eq_zero_or_pos
abbrev AZC:=@List.singleton_append
abbrev AZD:=@List.mem_of_mem_drop
abbrev AZE:=@Nat.mod_lt
abbrev AZF:=@List.append_assoc
abbrev AZG:=@List.pairwise_map
abbrev AZH:=@false_and
abbrev AZI:=@List.drop_zero
abbrev AZJ:=@List.take_length
abbrev AZK:=@List.findIdx_lt_length
abbrev AZL:=@Nat.add_zero
abbrev AZM:=@decide_eq_true_iff
abbrev AZN:=@List.length_set
abbrev AZO:=@List.map_append
abbrev AZP:=@Option.some.inj
abbrev AZQ:=@List.perm_append_comm
abbrev AZR:=@Int.fdiv_eq_ediv_of_nonneg
abbrev AZS:=@List.getElem?_map
abbrev AZT:=@List.ext_getElem?
abbrev AZU:=@List.nodup_append
abbrev AZV:=@Array.toArray_toList
abbrev AZW:=@List.range_eq_range'
abbrev AZX:=@List.getLast?_append
abbrev AZY:=@List.mem_take_iff_getElem
abbrev AZZ:=@List.pairwise_iff_getElem
abbrev AZa:=@Nat.one_mul
abbrev AZb:=@Nat.le_of_eq
abbrev AZc:=@List.map_nil
abbrev AZd:=@Nat.lt_or_ge
abbrev AZe:=@List.take_succ_eq_append_getElem
abbrev AZf:=@List.any_eq_true
abbrev AZg:=@true_and
abbrev AZh:=@decide_eq_decide
abbrev AZi:=@List.filter_eq_self
abbrev AZj:=@List.eraseIdx_cons_succ
abbrev AZk:=@List.getElem?_take
abbrev AZl:=@List.filter_append
abbrev AZm:=@List.append_of_mem
abbrev AZn:=@List.headD_cons
abbrev AZo:=@List.range_zero
abbrev AZp:=@Nat.add_sub_cancel
abbrev AZq:=@of_decide_eq_true
abbrev AZr:=@Nat.zero_mul
abbrev AZs:=@Nat.mul_le_mul
abbrev AZt:=@Bool.false_and
abbrev AZu:=@List.eraseIdx_sublist
abbrev AZv:=@and_true
abbrev AZw:=@List.Pairwise.filter
abbrev AZx:=@or_false
abbrev AZy:=@Bool.false_or
abbrev AZz:=@Int.tmod_eq_emod_of_nonneg
abbrev AZ0:=@Nat.mul_one
abbrev AZ1:=@Nat.zero_le
abbrev AZ2:=@List.flatten_append
abbrev AZ3:=@List.flatMap_append
abbrev AZ4:=@Array.mapM_eq_mapM_toList
abbrev AZ5:=@Bool.eq_iff_iff
abbrev AZ6:=@List.extract_eq_take_drop
abbrev AZ7:=@List.take_left'
abbrev AZ8:=@List.getElem?_drop
abbrev AZ9:=@List.eq_of_mem_replicate
abbrev AaA:=@Nat.mod_eq_sub_mod
abbrev AaB:=@Nat.lt_or_gt_of_ne
abbrev AaC:=@List.find?_range_eq_some
abbrev AaD:=@BitVec.toNat_ofInt
abbrev AaE:=@List.take_take
abbrev AaF:=@List.getLast?_cons_cons
abbrev AaG:=@List.filter_cons_of_pos
abbrev AaH:=@List.filter_cons_of_neg
abbrev AaI:=@Classical.not_not
abbrev AaJ:=@List.pairwise_lt_range
abbrev AaK:=@Int.mul_add
abbrev AaL:=@Int.mul_one
abbrev AaM:=@List.map_eq_append_iff
abbrev AaN:=@Bool.true_and
abbrev AaO:=@List.take_append
abbrev AaP:=@Array.all_toList
abbrev AaQ:=@Nat.max_eq_right
abbrev AaR:=@Nat.min_eq_right
end Go.Pev
end
section
namespace Go.Pev
def sJ:List Int:=[0,1,28,2,29,14,24,3,30,22,20,15,25,17,4,8,31,27,13,23,21,19,16,7,26,12,18,6,11,5,10,9]
def kU:List (Nat×IntKind×List Int):=[(0,.u8,sJ)]
end Go.Pev
end
section
namespace Go.Pev
inductive Ty where
 |unit|bool
 |int (k:IntKind)
 |slice (e:Ty)
 |prod (a b:Ty)
 |arr (n:Nat) (e:Ty)
 |nul (e:Ty)
 |mapi (j:IntKind) (e:Ty)
 deriving DecidableEq
@[reducible] def Ty.den:Ty→Type
 |.unit=>Unit
 |.bool=>Bool
 |.int _=>Int
 |.slice e=>List e.den
 |.prod a b=>a.den×b.den
 |.arr _ e=>List e.den
 |.nul _=>Unit
 |.mapi _ e=>List (Int×e.den)
def Ty.size:Ty→Nat
 |.unit=>0
 |.bool=>1
 |.int _=>1
 |.slice _=>1
 |.prod a b=>a.size+b.size
 |.arr n e=>n*e.size
 |.nul _=>1
 |.mapi _ _=>1
def Ty.isAgg:Ty→Bool
 |.unit=>true
 |.prod _ _=>true
 |.arr _ _=>true
 |_=>false
def Ty.made(b:Bool):Ty→Ty
 |.slice e=>match b with
  |true=>.nul e
  |false=>.slice e
 |t=>t
def Ty.nul? : (t:Ty)→Option Ty
 |.nul e=>some e
 |_=>none
def Ty.zero:(t:Ty)→t.den
 |.unit=>()
 |.bool=>false
 |.int _=>(0:Int)
 |.slice _=>[]
 |.prod a b=>(a.zero,b.zero)
 |.arr n e=>List.replicate n e.zero
 |.nul _=>()
 |.mapi _ _=>[]
def Ty.flat:Ty→Bool
 |.unit=>true
 |.bool=>true
 |.int _=>true
 |.slice _=>false
 |.prod a b=>a.flat&&b.flat
 |.arr _ e=>e.flat
 |.nul _=>true
 |.mapi _ _=>false
inductive AV where
 |Cr
 |data (t:Ty) (d:t.den)
 |nils (e:Ty)
 |agg (cs:List AV)
 |own (id:Nat)
 |win (id off n:Nat)
 |ptr (id off:Nat)
 |eptr (id i sub:Nat)
 |dptr (cs:List AV)
 |clo (f:FuncId) (caps:List AV)
 |bnd (f:FuncId) (fs:List AV)
 |str (xs:List Int)
 |clip (t:Ty) (xs:List t.den)
 |mp (id:Nat)
 |tup (vs:List AV)
 |rowp (id i ver:Nat)
 |glob (g:Nat)
 |aptr (id n:Nat)
 |nilp
 |ifc (o:Option (TypeId×List (IntKind×Int)))
def Ji:Option (TypeId×List (IntKind×Int))→Value
 |none=>.nilIface
 |some (T,l)=>.iface T (.agg (l.map fun p=>Value.int p.1 p.2).toArray)
def ru:List AV→Option (List (IntKind×Int))
 |[]=>some []
 |.data (.int k) n::r=>(ru r).map ((k,n) :: ·)
 |_::_=>none
def BH{α:Type}(xs:List α)(i:Nat)(x:α):List α:=xs.set i x
inductive RK where
 |arr (T:TypeId)
 |map (j:IntKind) (ks:List Int)
def RK.JJ:RK→Bool
 |.arr _=>true
 |.map _ _=>false
def HH(ks:List Int)(x:Int):Nat:=
 match ks with
 |[]=>0
 |k::ks=>if k=x then 0 else HH ks x+1
def VJ{α:Type}(xs:List α)(i:Nat)(x:α):List α:=if i<xs.length then xs.set i x else xs++[x]
def RK.put{α:Type}(K:RK)(xs:List α)(i:Nat)(x:α):List α:=
 match K with
 |.arr _=>BH xs i x
 |.map _ _=>VJ xs i x
inductive Ob where
 |free
 |dead
 |box (cs:List AV)
 |arr (T:TypeId) (t:Ty) (xs:List t.den)
 |map (k v:Ty) (es:List (k.den×v.den))
 |prs (T:TypeId) (tgt:Nat) (is:List Int)
 |rows (K:RK) (e:TypeId) (t:Ty) (xs:List (List t.den)) (ver:Nat) (out:Option Nat)
def GD(tgt:Nat)(is:List Int):List AV:=is.map fun i=>.eptr tgt i.toNat 0
def CA:Ob→Bool
 |.rows _ _ _ _ _ _=>false
 |_=>true
structure Tm where
 n:Nat
 f:Nat→AV
noncomputable def Tm.set(m:Tm)(t:Nat)(v:AV):Tm:=⟨m.n,fun i=>Bool.rec (m.f i) (Bool.rec (m.f i) v (Nat.blt t m.n)) (Nat.beq i t)⟩
def Tm.of(l:List AV)(n:Nat):Tm:=⟨n,fun i=>l.getD i .Cr⟩
def Tm.at(m:Tm)(t:Nat):Option AV:=match Nat.blt t m.n with
 |true=>some (m.f t)
 |false=>none
def Tm.list(m:Tm):List AV:=(List.range m.n).map m.f
def lk(l:List AV)(t:Nat):Option AV:=l[t]?
theorem Tm.ext{m m':Tm}(h:m.n=m'.n)(k:∀ i,m.f i=m'.f i):m=m':=by cases m;cases m';simp only at h k;subst h;congr;grind
theorem Tm.TG(m:Tm)(t:Nat)(v:AV)(i:Nat):(m.set t v).f i=if i=t∧t<m.n then v else m.f i:=by
 unfold Tm.set;dsimp only;cases h:Nat.beq i t with
  |false=>
   have:i≠t:=by rintro rfl;simp_all
   grind
  |true=>
   have:=AYC h;subst this;cases h2:Nat.blt i m.n with
    |false=>
     have:¬ i<m.n:=by intro h3;have h4:Nat.ble (i+1) m.n=true:=Nat.ble_eq_true_of_le h3;rw[show Nat.blt i m.n=Nat.ble (i+1) m.n from rfl,h4]at h2;cases h2
     grind
    |true=>simp_all
theorem Tm.Lx{m:Tm}{t:Nat}{v:AV}(h:m.f t=v):m.set t v=m:=Tm.ext rfl fun i=>by rw[Tm.TG];grind
theorem Tm.set_comm(m:Tm){t u:Nat}(v w:AV)(h:t≠u):(m.set t v).set u w=(m.set u w).set t v:=Tm.ext rfl fun i=>by simp only[Tm.TG,show ∀ a b,(Tm.set m a b).n=m.n from fun _ _=>rfl];grind
theorem Tm.set_set(m:Tm)(t:Nat)(v w:AV):(m.set t v).set t w=m.set t w:=Tm.ext rfl fun i=>by simp only[Tm.TG,show ∀ a b,(Tm.set m a b).n=m.n from fun _ _=>rfl];grind
theorem Tm.AUO{m:Tm}{t:Nat}{v:AV}(h:m.at t=some v):v=m.f t∧t<m.n:=by unfold Tm.at at h;split at h;all_goals simp_all
theorem Tm.AOj(m:Tm):m.list.length=m.n:=by simp[Tm.list]
theorem Tm.AOk{m:Tm}{t:Nat}{v:AV}(h:m.list[t]? = some v):v=m.f t:=by unfold Tm.list at h;grind
abbrev w64(n:Int):Int:=IntKind.wrap .i64 n
structure St where
 tmps:Tm
 heap:List Ob
 frz:List Bool
def nf{R:Type}(n:Nat)(k:Nat→R):R:=match n with
 |0=>k 0
 |n+1=>k (Nat.succ n)
theorem Nx{R:Type}(n:Nat)(k:Nat→R):nf n k=k n:=by cases n<;>rfl
structure Eff where
 heap:Option (List Ob×List Bool):=none
 objs:List (Nat×Ob):=[]
 frz:List Nat:=[]
def A4{α:Type}(xs:List α):Int:=(xs.length:Int)
def A7{α:Type}(xs:List α)(i:Nat)(z:α):α:=xs.getD i z
def BT{α:Type}(xs ys:List α):List α:=xs++ys
def C1{α:Type}(n:Nat)(xs:List α):List α:=xs.take n
def E'{α:Type}(off n:Nat)(xs:List α):List α:=(xs.drop off).take n
def DD{α:Type}(n:Nat)(x:α):List α:=List.replicate n x
def A3(n:Int):Nat:=n.toNat
def Dg{α:Type}(off n:Nat)(z:α)(xs:List α):List α:=xs.take off++(List.replicate n z++xs.drop (off+n))
def Y9:Operand→Option ByteArray
 |.const (.string s)=>some s
 |_=>none
def isConst:Operand→Bool
 |.const _=>true
 |_=>false
def bytesOf(s:ByteArray):List Int:=s.data.toList.map fun b=>(b.toNat:Int)
def LO(xs:List Int):List Int:=xs.map fun n=>((UInt8.ofNat n.toNat).toNat:Int)
def Cb(a b:Int):Int:=if b<a then b else a
def imax(a b:Int):Int:=if b > a then b else a
noncomputable def lock{α:Type}(x:α):α:=Classical.choose (⟨x,rfl⟩:∃ y,y=x)
theorem A0{α:Type}(x:α):lock x=x:=Classical.choose_spec (⟨x,rfl⟩:∃ y,y=x)
class Lk where
 f:{α:Type}→α→α
noncomputable instance lockI:Lk:=⟨fun x=>lock x⟩
abbrev idI:Lk:=⟨fun x=>x⟩
theorem X0:lockI=idI:=by unfold lockI idI;congr;funext α x;exact A0 x
def YX{α:Type}(xs:List α)(i:Int):Option α:=if i<0 then none else xs[i.toNat]?
def idx[Lk]{α:Type}(xs:List α)(i:Int):Option α:=Lk.f (YX xs i)
theorem idx_eq{α:Type}(xs:List α)(i:Int):idx xs i=YX xs i:=A0 _
def cn{α:Type}(xs:List α)(l h:Int):Option (List α):=
 if 0≤l∧l≤h∧h≤xs.length then some ((xs.take h.toNat).drop l.toNat)else none
def Cv[Lk]{α:Type}(xs:List α)(l h:Int):Option (List α):=Lk.f (cn xs l h)
theorem NN{α:Type}(xs:List α)(l h:Int):Cv xs l h=cn xs l h:=A0 _
def ilt[Lk](a b:Int):Bool:=Lk.f (decide (a<b))
def ile[Lk](a b:Int):Bool:=Lk.f (decide (a≤b))
def ieq[Lk](a b:Int):Bool:=Lk.f (a==b)
theorem BM(a b:Int):ilt a b=decide (a<b):=A0 _
theorem BZ(a b:Int):ile a b=decide (a≤b):=A0 _
theorem D_(a b:Int):ieq a b=(a==b):=A0 _
def AMi(a b:List Int):Bool:=a==b
def seq?[Lk](a b:List Int):Bool:=Lk.f (AMi a b)
theorem seq_eq(a b:List Int):seq? a b=AMi a b:=A0 _
def CC:(t:Ty)→t.den→List AV
 |.unit,_=>[]
 |.bool,b=>[.data .bool b]
 |.int k,n=>[.data (.int k) n]
 |.slice e,xs=>[.data (.slice e) xs]
 |.prod a b,d=>CC a d.1++CC b d.2
 |.arr n e,xs=>(List.range n).flatMap fun i=>CC e (A7 xs i e.zero)
 |.nul e,_=>[.nils e]
 |.mapi j e,es=>[.data (.mapi j e) es]
def zeroCells:Ty→List AV
 |.unit=>[]
 |.bool=>[.data .bool false]
 |.int k=>[.data (.int k) (0:Int)]
 |.slice e=>[.nils e]
 |.prod a b=>zeroCells a++zeroCells b
 |.arr n e=>(List.replicate n (zeroCells e)).flatten
 |.nul e=>[.nils e]
 |.mapi _ _=>[.Cr]
def Oo(k:IntKind):List AV→Option (List Int)
 |[]=>some []
 |.data (.int j) n::r=>match decide (j=k),Oo k r with
  |true,some ns=>some (n::ns)
  |_,_=>none
 |_::_=>none
def cast{t t':Ty}(d:t.den):Option t'.den:=if h:t=t' then some (h▸d)else none
def Lc{t t':Ty}(d:List t.den):Option (List t'.den):=if h:t=t' then some (h▸d)else none
def ES(H:List Ob)(t:Ty)(v:AV):Option (t.den×List Nat):=
 match v with
 |.data _ d=>(cast d:Option t.den).map fun x=>(x,[])
 |.clip e xs=>(cast (t:=.slice e) xs:Option t.den).map fun x=>(x,[])
 |.nils _=>match t with
  |.slice _=>some ([],[])
  |.nul _=>some ((),[])
  |_=>none
 |.own id=>match H[id]? with
  |some (.arr _ e xs)=>(cast (t:=.slice e) xs:Option t.den).map fun x=>(x,[id])
  |_=>none
 |.win id off n=>match H[id]? with
  |some (.arr _ e xs)=>(cast (t:=.slice e) (E' off n xs):Option t.den).map fun x=>(x,[id])
  |_=>none
 |.mp id=>match H[id]? with
  |some (.rows (.map j ks) _ e xs _ none)=>(cast (t:=.mapi j (.slice e)) (List.zip (β:=List e.den) ks xs):Option t.den).map fun x=>(x,[id])
  |_=>none
 |_=>none
def QK{α:Type}(one:List AV→Option (α×List Nat×List AV)):Nat→List AV→Option (List α×List Nat×List AV)
 |0,cs=>some ([],[],cs)
 |n+1,cs=>match one cs with
  |none=>none
  |some (x,f,cs)=>match QK one n cs with
   |none=>none
   |some (xs,g,cs)=>some (x::xs,f++g,cs)
def BW(H:List Ob):(t:Ty)→List AV→Option (t.den×List Nat×List AV)
 |.unit,cs=>some ((),[],cs)
 |.bool,c::cs=>match ES H .bool c with
  |none=>none
  |some (x,f)=>some (x,f,cs)
 |.int k,c::cs=>match ES H (.int k) c with
  |none=>none
  |some (x,f)=>some (x,f,cs)
 |.slice e,c::cs=>match ES H (.slice e) c with
  |none=>none
  |some (x,f)=>some (x,f,cs)
 |.prod a b,cs=>match BW H a cs with
  |none=>none
  |some (x,f,cs)=>match BW H b cs with
   |none=>none
   |some (y,g,cs)=>some ((x,y),f++g,cs)
 |.arr n e,cs=>QK (BW H e) n cs
 |.nul e,c::cs=>match ES H (.nul e) c with
  |none=>none
  |some (x,f)=>some (x,f,cs)
 |.mapi j e,c::cs=>match ES H (.mapi j e) c with
  |none=>none
  |some (x,f)=>some (x,f,cs)
 |_,[]=>none
def asAgg(H:List Ob)(t:Ty)(v:AV):Option (t.den×List Nat):=
 match v with
 |.data _ d=>(cast d:Option t.den).map fun x=>(x,[])
 |.agg cs=>match BW H t cs with
  |some (x,f,[])=>some (x,f)
  |_=>none
 |_=>none
def FM(H:List Ob)(t:Ty)(v:AV):Option (t.den×List Nat):=
 match t.isAgg with
 |true=>asAgg H t v
 |false=>ES H t v
def ZM(H:List Ob)(t:Ty)(v:AV):Option (t.den×List Nat):=
 match v with
 |.own id=>match H[id]? with
  |some (.rows (.arr _) _ e xs _ none)=>(cast (t:=.slice (.slice e)) xs:Option t.den).map fun x=>(x,[id])
  |_=>FM H t (.own id)
 |v=>FM H t v
@[reducible] def Bg:List Ty→Type
 |[]=>Unit
 |t::ts=>t.den×Bg ts
abbrev Spec:=(R:Type)→List AV→List Ob→List Bool→Nat→(AV→Eff→Option R)→Option R
abbrev PV:=TypeId×List (IntKind×Int)
abbrev KS:=(R:Type)→List AV→List Ob→List Bool→Nat→(AV→Eff→Option R)→(PV→Eff→Option R)→Option R
def Cz(p:PV):PanicEntry:={ v:=Ji (some p),recovered:=false }
abbrev ZV:=(R:Type)→St→(Exit→St→Option R)→Option R
def UR(P:Program):Nat→TypeId→Option Ty
 |0,_=>none
 |n+1,t=>match P.underlying t with
  |some .bool=>some .bool
  |some (.int k)=>some (.int k)
  |some (.slice e)=>(UR P n e).map .slice
  |some (.array c e)=>(UR P n e).map (.arr c)
  |some (.struct fs)=>(fs.toList.mapM fun f=>UR P n f.type).map fun ts=>ts.foldr Ty.prod .unit
  |_=>none
def iO(P:Program)(t:TypeId):Option Ty:=UR P 12 t
def sliceAt(P:Program)(t:TypeId):Option (TypeId×Ty):=
 match P.underlying t with
 |some (.slice e)=>match iO P e with
  |some x=>match decide (0<x.size)with
   |true=>some (e,x)
   |false=>none
  |none=>none
 |_=>none
def Ew(P:Program)(t:TypeId):Option Bool:=
 match P.underlying t with
 |some (.struct _)=>some true
 |some (.array _ _)=>some true
 |some _=>some false
 |none=>none
def Dl:AV→Value→Bool
 |.data .bool b,.bool c=>b==c
 |.data (.int k) n,.int k' m=>(decide (k=k'))&&(n==m)
 |.nils _,.slice none 0 0=>true
 |_,_=>false
def Cj:List AV→List Value→Bool
 |[],[]=>true
 |a::asz,v::vs=>Dl a v&&Cj asz vs
 |_,_=>false
def Om:Value→Bool
 |.agg _=>true
 |_=>false
def zeroAt(P:Program)(T:TypeId):Option (Ty×List AV):=
 match iO P T,P.info? T with
 |some t,some i=>match i.zero with
  |some z=>if Cj (zeroCells t) z.cells.toList&&(i.size==t.size)&&(t.isAgg==Om z)then some (t,zeroCells t)else none
  |none=>none
 |_,_=>none
def k9:Value→AV
 |.bool b=>.data .bool b
 |.int k n=>.data (.int k) n
 |.slice none 0 0=>.nils .unit
 |.pointer none=>.nilp
 |.string s=>.str (bytesOf s)
 |.nilIface=>.ifc none
 |_=>.Cr
def BY(tmps:Tm):Operand→AV
 |.tmp t=>tmps.f t
 |.const v=>k9 v
 |.func f=>.clo f []
 |.global g=>.glob g
def cells? : AV→Option (List AV)
 |.Cr=>none
 |.tup _=>none
 |.data .unit _=>some []
 |.data (.prod a b) d=>some (CC (.prod a b) d)
 |.data (.arr n e) d=>some (CC (.arr n e) d)
 |.agg cs=>some cs
 |v=>some [v]
noncomputable def ABm[Lk](op:BinOp)(k:IntKind)(a b:Int):Option AV:=
 match op with
 |.add=>some (.data (.int k) (k.wrap (a+b)))
 |.sub=>some (.data (.int k) (k.wrap (a-b)))
 |.mul=>some (.data (.int k) (k.wrap (a*b)))
 |.and=>some (.data (.int k) (k.wrap (BitVec.ofInt k.bits a &&& BitVec.ofInt k.bits b).toNat))
 |.or=>some (.data (.int k) (k.wrap (BitVec.ofInt k.bits a ||| BitVec.ofInt k.bits b).toNat))
 |.xor=>some (.data (.int k) (k.wrap (BitVec.ofInt k.bits a ^^^ BitVec.ofInt k.bits b).toNat))
 |.andNot=>some (.data (.int k) (k.wrap (BitVec.ofInt k.bits a &&& ~~~(BitVec.ofInt k.bits b)).toNat))
 |.eql=>some (.data .bool (ieq a b))
 |.neq=>some (.data .bool (!(ieq a b)))
 |.lss=>some (.data .bool (ilt a b))
 |.leq=>some (.data .bool (ile a b))
 |.gtr=>some (.data .bool (ilt b a))
 |.geq=>some (.data .bool (ile b a))
 |_=>none
def jZ(k:IntKind)(a b:Int):Option Int:=if b=0 then none else some (k.wrap (a.tdiv b))
def quo?[Lk](k:IntKind)(a b:Int):Option Int:=Lk.f (jZ k a b)
theorem OQ(k:IntKind)(a b:Int):quo? k a b=jZ k a b:=A0 _
def yU(a b:Int):Option Int:=if b=0 then none else some (a.tmod b)
def rem?[Lk](a b:Int):Option Int:=Lk.f (yU a b)
theorem XR(a b:Int):rem? a b=yU a b:=A0 _
def AHS(k:IntKind)(a b:Int):Option Int:=if b<0 then none else some (k.wrap (a*2 ^ min b.toNat k.bits))
def shl?[Lk](k:IntKind)(a b:Int):Option Int:=Lk.f (AHS k a b)
theorem jC(k:IntKind)(a b:Int):shl? k a b=AHS k a b:=A0 _
def oe(k:IntKind)(a b:Int):Option Int:=if b<0 then none else some (a.fdiv (2 ^ min b.toNat k.bits))
def shr?[Lk](k:IntKind)(a b:Int):Option Int:=Lk.f (oe k a b)
theorem Rj(k:IntKind)(a b:Int):shr? k a b=oe k a b:=A0 _
def sW(n:Int):Bool:=Nat.ble n.toNat 4294967296
theorem Sd(n:Int):sW n=true↔n≤4294967296:=by unfold sW;simp
def fits[Lk](n:Int):Bool:=Lk.f (sW n)
theorem AT4(n:Int):fits n=sW n:=A0 _
theorem Fc(n:Int):fits n=true↔n≤4294967296:=by rw[AT4,Sd]
def kZ(n:Int):Bool:=decide (0≤n)&&Nat.ble n.toNat 4294967296
theorem AAb(n:Int):kZ n=true↔0≤n∧n≤4294967296:=by unfold kZ;simp
def CZ[Lk](n:Int):Bool:=Lk.f (kZ n)
theorem APv(n:Int):CZ n=kZ n:=A0 _
theorem Hz(n:Int):CZ n=true↔0≤n∧n≤4294967296:=by rw[APv,AAb]
def K6(P:Program)(t:TypeId):Option IntKind:=
 match P.underlying t with
 |some (.int k)=>some k
 |_=>none
def EG(cs new:List AV)(off:Nat):Option (List AV):=
 if off+new.length≤cs.length then some (cs.take off++new++cs.drop (off+new.length))else none
def FA(place:Nat→Option (Nat×Nat)):List (Nat×AV)→List AV→Option (List AV)
 |[],cs=>some cs
 |(i,v)::rest,cs=>match place i with
  |none=>none
  |some (off,size)=>match cells? v with
   |none=>none
   |some vs=>match decide (vs.length=size)with
    |false=>none
    |true=>match EG cs vs off with
     |none=>none
     |some cs=>FA place rest cs
def fieldAt(P:Program)(T:TypeId)(f:Nat):Option (Nat×Nat×Bool):=
 match P.underlying T with
 |some (.struct fs)=>match fs[f]? with
  |some f=>match P.info? f.type,Ew P f.type with
   |some i,some ag=>some (f.offset,i.size,ag)
   |_,_=>none
  |none=>none
 |_=>none
def elemAt(P:Program)(T:TypeId):Option (Nat×Bool):=
 match P.underlying T with
 |some (.array _ e)=>match P.info? e,Ew P e with
  |some i,some ag=>some (i.size,ag)
  |_,_=>none
 |_=>none
def CD(P:Program)(T:TypeId):Option Nat:=(P.info? T).map (·.size)
def cellAt(P:Program)(T:TypeId):Option TypeId:=
 match P.underlying T with
 |some (.slice e)=>match P.info? e with
  |some i=>match i.zero with
   |some z=>match decide (i.size=1)&&(decide (z.cells.size=1)&&decide (i.bytes≤1024))with
    |true=>some e
    |false=>none
   |none=>none
  |none=>none
 |_=>none
def loadCells(agg:Bool)(size:Nat)(cs:List AV):Option AV:=
 match agg with
 |true=>if size≤cs.length then some (.agg (cs.take size))else none
 |false=>cs.head?
def BA{α β:Type}[DecidableEq α](es:List (α×β))(k:α):Option β:=
 match es with
 |[]=>none
 |(a,b)::es=>if a=k then some b else BA es k
def BP{α β:Type}[DecidableEq α](es:List (α×β))(k:α)(v:β):List (α×β):=
 match es with
 |[]=>[(k,v)]
 |(a,b)::es=>if a=k then(a,v)::es else(a,b)::BP es k v
def HG{α β:Type}[DecidableEq α](es:List (α×β))(k:α):Option Nat:=
 match es with
 |[]=>none
 |(a,_)::es=>if a=k then some 0 else(HG es k).map (· + 1)
def aT{α β:Type}[DecidableEq α](es:List (α×β))(k:α):Int:=((HG es k).getD es.length:Nat)
def AIp{α β:Type}(es:List (α×β))(i:Int)(v:β):List (α×β):=es.modify i.toNat fun e=>(e.1,v)
instance decDen:(t:Ty)→DecidableEq t.den
 |.unit=>inferInstanceAs (DecidableEq Unit)
 |.bool=>inferInstanceAs (DecidableEq Bool)
 |.int _=>inferInstanceAs (DecidableEq Int)
 |.slice e=>haveI:=decDen e;inferInstanceAs (DecidableEq (List e.den))
 |.prod a b=>@instDecidableEqProd _ _ (decDen a) (decDen b)
 |.arr _ e=>haveI:=decDen e;inferInstanceAs (DecidableEq (List e.den))
 |.nul _=>inferInstanceAs (DecidableEq Unit)
 |.mapi _ e=>haveI:=decDen e;inferInstanceAs (DecidableEq (List (Int×e.den)))
def FW(H:List Ob)(id:Nat):Bool:=
 match H[id]? with
 |some (.box _)=>true
 |_=>false
def DW(H:List Ob)(id:Nat):Bool:=
 match H[id]? with
 |some (.arr _ _ _)=>true
 |_=>false
def GN(H:List Ob):AV→Bool
 |.data (.slice _) _=>true
 |.nils _=>true
 |.own id=>DW H id
 |.win id _ _=>DW H id
 |_=>false
def N':AV→Bool
 |.agg _=>true
 |.data t _=>t.isAgg
 |_=>false
def Bc(H:List Ob)(fz:List Bool)(slot:Nat):Bool:=
 match H[slot]? with
 |some .free => !(fz.getD slot false)
 |_=>false
def BJ(fz:List Bool)(id:Nat):Bool := !(fz.getD id false)
noncomputable def Gc[Lk](H:List Ob)(sz:Option Nat)(x:AV)(lo hi:Option Int):(R:Type)→(AV→Option R)→Option R:=fun _ k=>
 match x with
 |.data (.slice e) xs=>match decide (sz=some e.size)with
  |true=>match Cv xs (lo.getD 0) (hi.getD (A4 xs))with
   |none=>none
   |some ys=>k (.data (.slice e) ys)
  |false=>none
 |.nils e=>match sz.isSome with
  |true=>match Cv ([]:List Unit) (lo.getD 0) (hi.getD 0)with
   |some _=>k (.nils e)
   |none=>none
  |false=>none
 |.own id=>match H[id]? with
  |some (.arr _ e xs)=>match decide (sz=some e.size)with
   |true=>match Cv xs (lo.getD 0) (hi.getD (A4 xs))with
    |none=>none
    |some ys=>k (.win id (A3 (lo.getD 0)) (A3 (A4 ys)))
   |false=>none
  |_=>none
 |.win id off n=>match H[id]? with
  |some (.arr _ e xs)=>match decide (sz=some e.size)with
   |true=>match Cv (E' off n xs) (lo.getD 0) (hi.getD (n:Int))with
    |none=>none
    |some ys=>k (.win id (off+A3 (lo.getD 0)) (A3 (A4 ys)))
   |false=>none
  |_=>none
 |_=>none
def eZ:AV→Option Int
 |.data (.int _) n=>some n
 |_=>none
def E8(ρ:Operand→AV):Option Operand→Option (Option Int)
 |none=>some none
 |some x=>(eZ (ρ x)).map some
end Go.Pev
end
section
namespace Go.Pev
noncomputable section
structure Env where
 spec:FuncId→Spec
 loc:FuncId→Bool
 GL:FuncId→Bool
 keep:Bool:=false
 rows:Bool:=false
 arrs:Bool:=false
 pan:FuncId→Option KS:=fun _=>none
def Br:List (Nat×Ob)→List Ob→List Ob
 |[],H=>H
 |(i,o)::rest,H=>Br rest (H.set i o)
def BI:List Nat→List Bool→List Bool
 |[],F=>F
 |i::rest,F=>BI rest (F.set i true)
structure Hints where
 fp:Nat→List (List Nat):=fun _=>[]
 loop:Nat→ZV:=fun _ _ _ _=>none
def slotsOf:Op→Nat
 |.alloc _=>1
 |.box ..=>1
 |.buildSlice ..=>1
 |.makeSlice ..=>1
 |.makeMap ..=>1
 |.slice _ _ _ _ (some _)=>1
 |.call { callee:=.builtin .append,.. }=>1
 |.call { callee:=.value _,.. }=>4
 |_=>0
def D8(H:List Ob)(t:Ty):List (Nat×AV)→List t.den→List Nat→Option (List t.den×List Nat)
 |[],xs,fr=>some (xs,fr)
 |(i,v)::rest,xs,fr=>match FM H t v,decide (i<xs.length)with
  |some (x,f),true=>D8 H t rest (xs.set i x) (fr++f)
  |_,_=>none
def WM(P:Program)(T:TypeId):Bool:=
 match P.underlying T with
 |some (.slice e)=>match P.underlying e with
  |some (.int .u8)=>true
  |_=>false
 |_=>false
def AC4(P:Program)(T:TypeId):Bool:=
 match P.underlying T with
 |some .string=>true
 |_=>false
def AOz(P:Program)(T:TypeId):Option Ty:=
 match P.underlying T with
 |some (.int k)=>some (.int k)
 |_=>none
def AOZ(P:Program)(T:TypeId):AV:=
 match sliceAt P T with
 |some (_,t)=>.nils t
 |none=>.nils .unit
def Lz(P:Program)(t:TypeId):Bool:=
 match P.underlying t with
 |some (.int _)=>true
 |some .bool=>true
 |_=>false
def EN(P:Program):List Field→Nat→Bool
 |[],_=>true
 | f :: fs, i => (f.name != "_") && (decide (f.offset = i) && (Lz P f.type && EN P fs (i + 1)))
def IY(P:Program)(t:TypeId):Bool:=
 match P.underlying t with
 |some (.int _)=>true
 |_=>false
def structEq(P:Program)(T:TypeId):Option (List Bool):=
 match P.underlying T with
 |some (.struct fs)=>match !(P.eqGuardType P.depth T)&&(!(P.stoodInHeld T)&&EN P fs.toList 0)with
  |true=>some (fs.toList.map fun f=>IY P f.type)
  |false=>none
 |_=>none
def Oa(P:Program):List Field→Nat→Option (List Bool)
 |[],_=>some []
 | f :: fs, i => match (f.name != "_") && decide (f.offset = i) with
  |false=>none
  |true=>match Lz P f.type with
   |true=>(Oa P fs (i+1)).map (IY P f.type :: ·)
   |false=>match P.underlying f.type with
    |some (.struct gs)=>match !(P.stoodInHeld f.type)&&(EN P gs.toList 0&&decide (CD P f.type=some gs.size))with
     |true=>(Oa P fs (i+gs.size)).map ((gs.toList.map fun g=>IY P g.type) ++ ·)
     |false=>none
    |_=>none
def Ri(P:Program)(T:TypeId):Option (List Bool):=
 match P.underlying T with
 |some (.struct fs)=>match !(P.eqGuardType P.depth T) && !(P.stoodInHeld T)with
  |true=>Oa P fs.toList 0
  |false=>none
 |_=>none
def AAO(P:Program)(T:TypeId):Option Nat:=
 match P.info? T with
 |some i=>match i.zero with
  |some z=>match z.cells.toList.all fun u=>u.oneCell' with
   |true=>some z.cells.size
   |false=>none
  |none=>none
 |none=>none
def kinds? : Ty→Option (List Bool)
 |.unit=>some []
 |.prod (.int _) r=>(kinds? r).map (true :: ·)
 |.prod .bool r=>(kinds? r).map (false :: ·)
 |_=>none
def Pu(P:Program)(T:TypeId):Option Ty:=
 match P.underlying T with
 |some (.array n e)=>match decide (n=2),P.underlying e,decide (CD P e=some 1)with
  |true,some (.int k),true=>some (.prod (.int k) (.prod (.int k) .unit))
  |_,_,_=>none
 |_=>none
def YA(P:Program)(T:TypeId):Option Ty:=
 match AOz P T with
 |some t=>some t
 |none=>match structEq P T,iO P T with
  |some n,some t=>match decide (kinds? t=some n)with
   |true=>some t
   |false=>none
  |_,_=>Pu P T
noncomputable def B6[Lk]:List Bool→List AV→List AV→Option Bool
 |[],[],[]=>some true
 |true::ks,.data (.int j) a::cs,.data (.int j') b::ds=>match decide (j=j'),B6 ks cs ds with
  |true,some r=>some (ieq a b&&r)
  |_,_=>none
 |false::ks,.data .bool a::cs,.data .bool b::ds=>match B6 ks cs ds with
  |some r=>some ((a==b)&&r)
  |none=>none
 |_,_,_=>none
def ANE(P:Program)(T:TypeId):Option (List AV):=
 match P.info? T,P.underlying T with
 |some i,some (.struct fs)=>match i.zero with
  |some z=>match(z.cells.toList.all fun u=>u.oneCell')&&fs.toList.all fun f=>(P.info? f.type).isSome with
   |true=>some (List.replicate z.cells.size .Cr)
   |false=>none
  |none=>none
 |_,_=>none
def AU2(E:Env)(t:Ty):Option (Nat×Ty):=
 match E.arrs,t with
 |true,.arr n e=>match decide (0<n)&&(Nat.ble n 4294967296&&decide (0<e.size))with
  |true=>some (n,e)
  |false=>none
 |_,_=>none
def ZN(H:List Ob)(n:Nat)(v:AV):Option (Nat×Nat×Int):=
 match v with
 |.aptr id n'=>match H[id]? with
  |some (.arr _ t xs)=>match decide (n'=n)with
   |true=>some (id,t.size,A4 xs)
   |false=>none
  |_=>none
 |_=>none
def gAt:AV→Option (IntKind×List Int)
 |.glob g=>(kU.find? fun p=>p.1==g).map (·.2)
 |_=>none
def Od(P:Program)(E:Env)(e:TypeId)(t:Ty)(n:Nat):Ob:=
 match E.rows,sliceAt P e with
 |true,some (e2,t2)=>.rows (.arr e) e2 t2 (DD n []) 0 none
 |_,_=>.arr e (t.made E.keep) (DD n (t.made E.keep).zero)
def Sf[Lk](P:Program)(E:Env)(R:Type)(c:Operand)(a:Operand)(b:Operand)(ty:TypeId)(ρ:Operand→AV)(H:List Ob)(fz:List Bool)(slot:Nat)(k:AV→Eff→Option R):Option R:=
 match ρ c with
  |.data .bool true=>k (ρ a) {}
  |.data .bool false=>k (ρ b) {}
  |_=>none
def Nd[Lk](P:Program)(E:Env)(R:Type)(T:TypeId)(ty:TypeId)(ρ:Operand→AV)(H:List Ob)(fz:List Bool)(slot:Nat)(k:AV→Eff→Option R):Option R:=
 match zeroAt P T with
  |some (t,cs)=>(match Bc H fz slot with
   |true=>(match AU2 E t with
    |some (n,e)=>k (.aptr slot n) { objs:=[(slot,.arr T e (DD n e.zero))] }
    |none=>k (.ptr slot 0) { objs:=[(slot,.box cs)] })
   |false=>none)
  |none=>match AAO P T with
   |some n=>(match Bc H fz slot with|true=>k (.ptr slot 0) { objs:=[(slot,.box (List.replicate n .Cr))] }|false=>none)
   |none=>none
def sd[Lk](P:Program)(E:Env)(R:Type)(T:TypeId)(x:Operand)(ty:TypeId)(ρ:Operand→AV)(H:List Ob)(fz:List Bool)(slot:Nat)(k:AV→Eff→Option R):Option R:=
 match CD P T with
  |some n=>match cells? (ρ x)with
   |some vs=>match decide (vs.length=n)with
    |true=>(match Bc H fz slot with|true=>k (.ptr slot 0) { objs:=[(slot,.box vs)] }|false=>none)
    |false=>none
   |none=>none
  |none=>none
def LH[Lk](P:Program)(E:Env)(R:Type)(T:TypeId)(parts:Array (Nat×Operand))(ty:TypeId)(ρ:Operand→AV)(H:List Ob)(fz:List Bool)(slot:Nat)(k:AV→Eff→Option R):Option R:=
 match zeroAt P T with
  |some (_,cs)=>match P.underlying T with
   |some (.struct fs)=>match FA (fun i=>match fs[i]? with
     |some f=>(CD P f.type).map fun n=>(f.offset,n)
     |none=>none) (parts.toList.map fun p=>(p.1,ρ p.2)) cs with
    |some cs=>k (.agg cs) {}
    |none=>none
   |some (.array _ e)=>match CD P e with
    |some n=>match FA (fun i=>some (i*n,n)) (parts.toList.map fun p=>(p.1,ρ p.2)) cs with
     |some cs=>k (.agg cs) {}
     |none=>none
    |none=>none
   |_=>none
  |none=>match ANE P T,P.underlying T with
   |some cs,some (.struct fs)=>match FA (fun i=>match fs[i]? with
     |some f=>(CD P f.type).map fun n=>(f.offset,n)
     |none=>none) (parts.toList.map fun p=>(p.1,ρ p.2)) cs with
    |some cs=>k (.agg cs) {}
    |none=>none
   |_,_=>none
def Ei[Lk](P:Program)(E:Env)(R:Type)(T:TypeId)(len:Nat)(parts:Array (Nat×Operand))(ty:TypeId)(ρ:Operand→AV)(H:List Ob)(fz:List Bool)(slot:Nat)(k:AV→Eff→Option R):Option R:=
 match sliceAt P T with
  |some (e,t)=>match zeroAt P e with
   |some _=>match decide (len*t.size≤16777216)with
    |true=>match D8 H t (parts.toList.map fun p=>(p.1,ρ p.2)) (List.replicate len t.zero) []with
     |some (xs,fr)=>(match Bc H (BI fr fz) slot with|true=>k (.own slot) { objs:=[(slot,.arr e t xs)],frz:=fr }|false=>none)
     |none=>none
    |false=>none
   |none=>none
  |none=>match cellAt P T,decide (len=1),parts.toList.map (fun p=>(p.1,ρ p.2))with
   |some e,true,[p]=>match p.2 with
    |.eptr tgt i sub=>match decide (p.1=0)&&(decide (sub=0)&&DW H tgt)with
     |true=>(match Bc H fz slot with|true=>k (.own slot) { objs:=[(slot,.prs e tgt [Int.ofNat i])] }|false=>none)
     |false=>none
    |_=>none
   |_,_,_=>none
def Jm[Lk](P:Program)(E:Env)(R:Type)(T:TypeId)(a:Operand)(ty:TypeId)(ρ:Operand→AV)(H:List Ob)(fz:List Bool)(slot:Nat)(k:AV→Eff→Option R):Option R:=
 match CD P T,Ew P T with
  |some n,some ag=>match ρ a with
   |.ptr id off=>match H[id]? with
    |some (.box cs)=>match loadCells ag n (cs.drop off)with
     |some v=>k v {}
     |none=>none
    |_=>none
   |.dptr cs=>match loadCells ag n cs with
    |some v=>k v {}
    |none=>none
   |.eptr id i sub=>match H[id]? with
    |some (.arr _ t xs)=>match loadCells ag n ((CC t (A7 xs i t.zero)).drop sub)with
     |some v=>k v {}
     |none=>none
    |some (.prs _ tgt is)=>match(n==1)&&((sub==0) && !ag)with
     |true=>k (.eptr tgt (A3 (A7 is i 0)) 0) {}
     |false=>none
    |some (.rows (.arr _) _ _ _ ver none)=>match(n==1)&&((sub==0) && !ag)with
     |true=>k (.rowp id i ver) {}
     |false=>none
    |_=>none
   |_=>none
  |_,_=>none
def Gh[Lk](P:Program)(E:Env)(R:Type)(T:TypeId)(a:Operand)(x:Operand)(ty:TypeId)(ρ:Operand→AV)(H:List Ob)(fz:List Bool)(slot:Nat)(k:AV→Eff→Option R):Option R:=
 match CD P T,cells? (ρ x)with
  |some n,some vs=>match decide (vs.length=n)with
   |false=>none
   |true=>match ρ a with
    |.ptr id off=>match H[id]? with
     |some (.box cs)=>match EG cs vs off with
      |some cs=>k .Cr { objs:=[(id,.box cs)] }
      |none=>none
     |_=>none
    |.eptr id i sub=>match H[id]? with
     |some (.arr T' t xs)=>match t.nul? with
      |some e=>match(sub==0)&&(n==1)with
       |true=>match FM H (.slice e) (ρ x)with
        |some (y,fr)=>match BJ (BI fr fz) id with
         |true=>k .Cr { objs:=[(id,.arr T' (.slice e) (BH (DD (List.length (α:=t.den) xs) []) i y))],frz:=fr }
         |false=>none
        |none=>none
       |false=>none
      |none=>match(sub==0)&&(n==t.size)with
       |true=>match FM H t (ρ x)with
        |some (y,fr)=>match BJ (BI fr fz) id with
         |true=>k .Cr { objs:=[(id,.arr T' t (BH xs i y))],frz:=fr }
         |false=>none
        |none=>none
       |false=>match EG (CC t (A7 xs i t.zero)) vs sub with
        |none=>none
        |some cs=>match BW H t cs with
         |some (y,fr,[])=>match BJ (BI fr fz) id with
          |true=>k .Cr { objs:=[(id,.arr T' t (BH xs i y))],frz:=fr }
          |false=>none
         |_=>none
     |some (.rows (.arr T') e t xs ver (some i'))=>match ρ x,((sub==0)&&(n==1))&&BJ fz id with
      |.rowp id' j ver',true=>match decide (id=id')&&decide (ver=ver')with
       |true=>match ieq (i:Int) (i':Int)&&ieq (j:Int) (i':Int)with
        |true=>k .Cr { objs:=[(id,.rows (.arr T') e t xs ver none)] }
        |false=>none
       |false=>none
      |_,_=>none
     |_=>none
    |_=>none
  |_,_=>none
def DU[Lk](P:Program)(E:Env)(R:Type)(x:Operand)(ty:TypeId)(ρ:Operand→AV)(H:List Ob)(fz:List Bool)(slot:Nat)(k:AV→Eff→Option R):Option R:=
 match ρ x with
  |.ptr id off=>match FW H id with
   |true=>k (.ptr id off) {}
   |false=>none
  |.eptr id i s=>match DW H id with
   |true=>k (.eptr id i s) {}
   |false=>none
  |.dptr cs=>k (.dptr cs) {}
  |.clo f cs=>k (.clo f cs) {}
  |.bnd f cs=>k (.bnd f cs) {}
  |_=>none
def DO[Lk](P:Program)(E:Env)(R:Type)(op:BinOp)(T:TypeId)(x:Operand)(y:Operand)(ty:TypeId)(ρ:Operand→AV)(H:List Ob)(fz:List Bool)(slot:Nat)(k:AV→Eff→Option R):Option R:=
 match Ri P T with
  |some n=>match cells? (ρ x),cells? (ρ y),N' (ρ x)&&N' (ρ y)with
   |some cs,some ds,true=>match B6 n cs ds,op with
    |some b,.eql=>k (.data .bool b) {}
    |some b,.neq=>k (.data .bool (!b)) {}
    |_,_=>none
   |_,_,_=>none
  |none=>match ρ x,ρ y with
   |.data (.int j) a,.data (.int j') b=>match op with
    |.shl=>match shl? j a b with
     |some n=>k (.data (.int j) n) {}
     |none=>none
    |.shr=>match shr? j a b with
     |some n=>k (.data (.int j) n) {}
     |none=>none
    |.quo=>match decide (j=j')with
     |true=>match quo? j a b with
      |some n=>k (.data (.int j) n) {}
      |none=>none
     |false=>none
    |.rem=>match decide (j=j')with
     |true=>match rem? a b with
      |some n=>k (.data (.int j) n) {}
      |none=>none
     |false=>none
    |op=>match decide (j=j'),ABm op j a b with
     |true,some v=>k v {}
     |_,_=>none
   |.data .bool a,.data .bool b=>match op,P.underlying T with
    |.eql,some .bool=>k (.data .bool (a==b)) {}
    |.neq,some .bool=>k (.data .bool (!(a==b))) {}
    |_,_=>none
   |.str a,.str b=>match op with
    |.eql=>k (.data .bool (seq? a b)) {}
    |.neq=>k (.data .bool (!(seq? a b))) {}
    |_=>none
   |.ifc a,.ifc none=>match op,P.underlying T,isConst y with
    |.eql,some (.interface _),true=>k (.data .bool a.isNone) {}
    |.neq,some (.interface _),true=>k (.data .bool (!a.isNone)) {}
    |_,_,_=>none
   |_,_=>none
def Se[Lk](P:Program)(E:Env)(R:Type)(op:UnOp)(x:Operand)(ty:TypeId)(ρ:Operand→AV)(H:List Ob)(fz:List Bool)(slot:Nat)(k:AV→Eff→Option R):Option R:=
 match op,ρ x with
  |.not,.data .bool b=>k (.data .bool (!b)) {}
  |.neg,.data (.int j) n=>k (.data (.int j) (j.wrap (0-n))) {}
  |_,_=>none
def GR[Lk](P:Program)(E:Env)(R:Type)(src:TypeId)(dst:TypeId)(x:Operand)(ty:TypeId)(ρ:Operand→AV)(H:List Ob)(fz:List Bool)(slot:Nat)(k:AV→Eff→Option R):Option R:=
 match ρ x,(P.underlying src).isSome,K6 P dst with
  |.data (.int _) n,true,some j=>k (.data (.int j) (j.wrap n)) {}
  |x,_,_=>match WM P src,AC4 P dst with
   |true,true=>match FM H (.slice (.int .u8)) x with
    |some (xs,_)=>k (.str (LO xs)) {}
    |none=>none
   |_,_=>none
def Ey[Lk](P:Program)(E:Env)(R:Type)(T:TypeId)(x:Operand)(ty:TypeId)(ρ:Operand→AV)(H:List Ob)(fz:List Bool)(slot:Nat)(k:AV→Eff→Option R):Option R:=
 match P.underlying T,N' (ρ x),(cells? (ρ x)).bind ru with
  |some (.struct _),true,some l=>k (.ifc (some (T,l))) {}
  |_,_,_=>none
def Eh[Lk](P:Program)(E:Env)(R:Type)(x:Operand)(T:TypeId)(ok:Bool)(ty:TypeId)(ρ:Operand→AV)(H:List Ob)(fz:List Bool)(slot:Nat)(k:AV→Eff→Option R):Option R:=
 match P.underlying T,zeroAt P T,ρ x with
  |some (.struct _),some (t,cs),.ifc o=>match ok&&t.isAgg with
   |true=>match o with
    |none=>k (.tup [.agg cs,.data .bool false]) {}
    |some (T',l)=>match decide (T'=T)with
     |true=>k (.tup [.agg (l.map fun p=>.data (.int p.1) p.2),.data .bool true]) {}
     |false=>k (.tup [.agg cs,.data .bool false]) {}
   |false=>none
  |_,_,_=>none
def E_[Lk](P:Program)(E:Env)(R:Type)(f:FuncId)(first:Array Operand)(cs:Array Operand)(ty:TypeId)(ρ:Operand→AV)(H:List Ob)(fz:List Bool)(slot:Nat)(k:AV→Eff→Option R):Option R:=
 match first.toList with
  |[]=>k (.clo f (cs.toList.map ρ)) {}
  |x::xs=>match cs.toList with
   |[]=>k (.bnd f ((x::xs).map ρ)) {}
   |_::_=>none
def H0[Lk](P:Program)(E:Env)(R:Type)(T:TypeId)(ty:TypeId)(ρ:Operand→AV)(H:List Ob)(fz:List Bool)(slot:Nat)(k:AV→Eff→Option R):Option R:=
 match P.underlying T with
  |some (.map a b)=>match E.rows,K6 P a,sliceAt P b with
   |true,some j,some (e,t)=>(match Bc H fz slot with|true=>k (.mp slot) { objs:=[(slot,.rows (.map j []) e t [] 0 none)] }|false=>none)
   |_,_,_=>match YA P a,iO P b with
   |some a,some b=>(match Bc H fz slot with|true=>k (.mp slot) { objs:=[(slot,.map a b [])] }|false=>none)
   |_,_=>none
  |_=>none
def G5[Lk](P:Program)(E:Env)(R:Type)(T:TypeId)(l:Operand)(c:Operand)(ty:TypeId)(ρ:Operand→AV)(H:List Ob)(fz:List Bool)(slot:Nat)(k:AV→Eff→Option R):Option R:=
 match sliceAt P T with
  |some (e,t)=>match zeroAt P e,ρ l,ρ c with
   |some _,.data (.int _) l,.data (.int _) c=>match CZ l&&CZ c&&ile l c&&decide (((P.info? e).map (·.bytes)).getD 65537≤65536)with
    |true=>(match Bc H fz slot with|true=>k (.own slot) { objs:=[(slot,Od P E e t (A3 l))] }|false=>none)
    |false=>none
   |_,_,_=>none
  |none=>none
def DN[Lk](P:Program)(E:Env)(R:Type)(T:TypeId)(x:Operand)(lo:Option Operand)(hi:Option Operand)(mx:Option Operand)(ty:TypeId)(ρ:Operand→AV)(H:List Ob)(fz:List Bool)(slot:Nat)(k:AV→Eff→Option R):Option R:=
 match P.underlying T with
  |some (.slice e)=>match mx with
   |none=>match E8 ρ lo,E8 ρ hi with
    |some lo,some hi=>Gc H (CD P e) (ρ x) lo hi R fun v=>k v {}
    |_,_=>none
   |some m=>match hi with
    |some (.tmp h)=>match E8 ρ lo,eZ (ρ (.tmp h)),eZ (ρ m)with
     |some lo,some n,some n'=>match ρ x with
      |.data (.slice t) xs=>match decide (CD P e=some t.size)with
       |true=>match ieq n n' with
        |true=>match Cv xs (lo.getD 0) n with
         |none=>none
         |some ys=>k (.clip t ys) {}
        |false=>none
       |false=>none
      |_=>none
     |_,_,_=>none
    |hi=>match E8 ρ lo,E8 ρ hi,eZ (ρ m),sliceAt P T with
     |some none,some (some 0),some 0,some (_,t)=>match GN H (ρ x),CD P e with
      |true,some _=>(match Bc H fz slot with|true=>k (.own slot) { objs:=[(slot,.arr e t [])] }|false=>none)
      |_,_=>none
     |_,_,_,_=>none
  |some (.array n e)=>match mx,E8 ρ lo,E8 ρ hi,ρ x with
   |none,some lo,some hi,.aptr id n'=>match H[id]? with
    |some (.arr _ t xs)=>match decide (n'=n)&&decide (CD P e=some t.size)with
     |true=>match Cv xs (lo.getD 0) (hi.getD (A4 xs))with
      |none=>none
      |some ys=>k (.win id (A3 (lo.getD 0)) (A3 (A4 ys))) {}
     |false=>none
    |_=>none
   |_,_,_,_=>none
  |_=>none
def Dk[Lk](P:Program)(E:Env)(R:Type)(T:TypeId)(x:Operand)(f:Nat)(ty:TypeId)(ρ:Operand→AV)(H:List Ob)(fz:List Bool)(slot:Nat)(k:AV→Eff→Option R):Option R:=
 match fieldAt P T f with
  |none=>none
  |some (off,size,_)=>match decide (size=0)with
   |true=>none
   |false=>match ρ x with
    |.ptr id o=>match FW H id with
     |true=>k (.ptr id (o+off)) {}
     |false=>none
    |.eptr id i s=>match DW H id with
     |true=>k (.eptr id i (s+off)) {}
     |false=>none
    |.dptr cs=>k (.dptr (cs.drop off)) {}
    |_=>none
def Qr[Lk](P:Program)(E:Env)(R:Type)(T:TypeId)(x:Operand)(f:Nat)(ty:TypeId)(ρ:Operand→AV)(H:List Ob)(fz:List Bool)(slot:Nat)(k:AV→Eff→Option R):Option R:=
 match fieldAt P T f with
  |none=>none
  |some (off,size,ag)=>match cells? (ρ x),N' (ρ x)with
   |some vs,true=>match loadCells ag size (vs.drop off)with
    |some v=>k v {}
    |none=>none
   |_,_=>none
def CH[Lk](P:Program)(E:Env)(R:Type)(T:TypeId)(x:Operand)(i:Operand)(ty:TypeId)(ρ:Operand→AV)(H:List Ob)(fz:List Bool)(slot:Nat)(k:AV→Eff→Option R):Option R:=
 match P.underlying T,ρ i with
  |some (.slice e),.data (.int _) i=>match ρ x with
   |.data (.slice t) xs=>match decide (CD P e=some t.size)with
    |true=>match idx xs i with
     |some d=>k (.dptr (CC t d)) {}
     |none=>none
    |false=>none
   |.own id=>match H[id]? with
    |some (.arr _ t xs)=>match decide (CD P e=some t.size)with
     |true=>match idx xs i with
      |some _=>k (.eptr id (A3 i) 0) {}
      |none=>none
     |false=>none
    |some (.prs _ _ is)=>match decide (CD P e=some 1)with
     |true=>match idx is i with
      |some _=>k (.eptr id (A3 i) 0) {}
      |none=>none
     |false=>none
    |some (.rows (.arr _) _ _ xs _ _)=>match decide (CD P e=some 1)with
     |true=>match idx xs i with
      |some _=>k (.eptr id (A3 i) 0) {}
      |none=>none
     |false=>none
    |_=>none
   |.win id off n=>match H[id]? with
    |some (.arr _ t xs)=>match decide (CD P e=some t.size)with
     |true=>match idx (E' off n xs) i with
      |some _=>k (.eptr id (off+A3 i) 0) {}
      |none=>none
     |false=>none
    |_=>none
   |_=>none
  |some (.array n e),.data (.int _) i=>match ZN H n (ρ x)with
   |some (id,s,len)=>match decide (CD P e=some s)with
    |true=>match ile 0 i&&(ilt i (n:Int)&&ilt i len)with
     |true=>k (.eptr id (A3 i) 0) {}
     |false=>none
    |false=>none
   |none=>match gAt (ρ x)with
   |some (kk,ns)=>match decide (CD P e=some 1)with
    |true=>match ile 0 i&&(ilt i (n:Int)&&ilt i (A4 ns))with
     |true=>k (.dptr [.data (.int kk) (A7 ns (A3 i) 0)]) {}
     |false=>none
    |false=>none
   |none=>match CD P e,decide (0≤i∧i<(n:Int))with
   |some s,true=>match ρ x with
    |.ptr id o=>match FW H id with
     |true=>k (.ptr id (o+i.toNat*s)) {}
     |false=>none
    |.eptr id j o=>match DW H id with
     |true=>k (.eptr id j (o+i.toNat*s)) {}
     |false=>none
    |.dptr cs=>k (.dptr (cs.drop (i.toNat*s))) {}
    |_=>none
   |_,_=>none
  |_,_=>none
def LG[Lk](P:Program)(E:Env)(R:Type)(T:TypeId)(x:Operand)(i:Operand)(ty:TypeId)(ρ:Operand→AV)(H:List Ob)(fz:List Bool)(slot:Nat)(k:AV→Eff→Option R):Option R:=
 match Y9 x with
  |some s=>match P.underlying T,ρ i with
   |some .string,.data (.int _) i=>match idx (bytesOf s) i with
    |some b=>k (.data (.int .u8) b) {}
    |none=>none
   |_,_=>none
  |none=>match E.arrs with
   |true=>match elemAt P T,P.underlying T,ρ i with
    |some (1,false),some (.array n e),.data (.int _) i=>match cells? (ρ x),N' (ρ x),K6 P e with
     |some vs,true,some kk=>match Oo kk vs with
      |some ns=>match decide (ns.length=n)with
       |true=>match idx ns i with
        |none=>none
        |some d=>k (.data (.int kk) d) {}
       |false=>none
      |none=>none
     |_,_,_=>none
    |_,_,_=>none
   |false=>match elemAt P T,P.underlying T,ρ i with
   |some (size,ag),some (.array n _),.data (.int _) i=>match decide (0≤i∧i<(n:Int))with
    |true=>match cells? (ρ x),N' (ρ x)with
     |some vs,true=>match loadCells ag size (vs.drop (i.toNat*size))with
      |some v=>k v {}
      |none=>none
     |_,_=>none
    |false=>none
   |_,_,_=>none
def EM[Lk](P:Program)(E:Env)(R:Type)(T:TypeId)(m:Operand)(x:Operand)(ok:Bool)(ty:TypeId)(ρ:Operand→AV)(H:List Ob)(fz:List Bool)(slot:Nat)(k:AV→Eff→Option R):Option R:=
 match P.underlying T,ρ m with
  |some (.map kt vt),.mp id=>match H[id]? with
   |some (.map a b es)=>match decide (YA P kt=some a),zeroAt P vt with
    |true,some (b',_)=>match decide (b'=b),FM H a (ρ x)with
     |true,some (key,_)=>match ok with
      |true=>k (.tup [.data b ((BA (α:=a.den) es key).getD b.zero),.data .bool (BA (α:=a.den) es key).isSome]) {}
      |false=>k (.data b ((BA (α:=a.den) es key).getD b.zero)) {}
     |_,_=>none
    |_,_=>none
   |some (.rows (.map j ks) e _ _ ver none)=>match decide (K6 P kt=some j),sliceAt P vt,(zeroAt P vt).isSome && !ok with
    |true,some (e',_),true=>match decide (e'=e),FM H (.int j) (ρ x)with
     |true,some (key,_)=>k (.rowp id (HH ks key) ver) {}
     |_,_=>none
    |_,_,_=>none
   |_=>none
  |some (.map kt vt),.data (.mapi j b) es=>match decide (K6 P kt=some j),zeroAt P vt with
   |true,some (b',_)=>match decide (b'=b) && !b.isAgg,FM H (.int j) (ρ x)with
    |true,some (key,_)=>match ok with
     |true=>k (.tup [.data b ((BA (α:=Int) es key).getD b.zero),.data .bool (BA (α:=Int) es key).isSome]) {}
     |false=>k (.data b ((BA (α:=Int) es key).getD b.zero)) {}
    |_,_=>none
   |_,_=>none
  |_,_=>none
def FJ[Lk](P:Program)(E:Env)(R:Type)(T:TypeId)(m:Operand)(x:Operand)(v:Operand)(ty:TypeId)(ρ:Operand→AV)(H:List Ob)(fz:List Bool)(slot:Nat)(k:AV→Eff→Option R):Option R:=
 match P.underlying T,ρ m with
  |some (.map kt _),.mp id=>match H[id]? with
   |some (.map a b es)=>match decide (YA P kt=some a),FM H a (ρ x),FM H b (ρ v)with
    |true,some (key,_),some (val,fr)=>k .Cr { objs:=[(id,.map a b (BP (α:=a.den) es key val))],frz:=fr }
    |_,_,_=>none
   |some (.rows (.map j ks) e t xs ver (some i'))=>match decide (K6 P kt=some j)&&BJ fz id,FM H (.int j) (ρ x),ρ v with
    |true,some (key,_),.rowp id' i ver'=>match decide (id=id')&&decide (ver=ver')with
     |true=>match ieq (i:Int) (i':Int)&&ieq (HH ks key:Int) (i':Int)with
      |true=>k .Cr { objs:=[(id,.rows (.map j (VJ ks i' key)) e t xs ver none)] }
      |false=>none
     |false=>none
    |_,_,_=>none
   |_=>none
  |_,_=>none
def Md[Lk](P:Program)(E:Env)(R:Type)(T:TypeId)(m:Operand)(x:Operand)(v:Operand)(ty:TypeId)(ρ:Operand→AV)(H:List Ob)(fz:List Bool)(slot:Nat)(k:AV→Eff→Option R):Option R:=
 match P.underlying T,ρ m with
  |some (.map kt _),.mp id=>match H[id]? with
   |some (.map a b es)=>match decide (YA P kt=some a),FM H a (ρ x),FM H b (ρ v)with
    |true,some (key,_),some (val,fr)=>k .Cr { objs:=[(id,.map a b (BP (α:=a.den) es key val))],frz:=fr }
    |_,_,_=>none
   |_=>none
  |_,_=>none
def GQ[Lk](P:Program)(E:Env)(R:Type)(T:TypeId)(m:Operand)(x:Operand)(ty:TypeId)(ρ:Operand→AV)(H:List Ob)(fz:List Bool)(slot:Nat)(k:AV→Eff→Option R):Option R:=
 match P.underlying T,ρ m with
  |some (.map kt vt),.mp id=>match H[id]? with
   |some (.map a b es)=>match decide (YA P kt=some a),zeroAt P vt,FM H a (ρ x)with
    |true,some (b',_),some (key,_)=>match decide (b'=b)with
     |true=>k (.tup [.data b ((BA (α:=a.den) es key).getD b.zero),.data (.int .i64) (aT (α:=a.den) es key)]) { objs:=[(id,.map a b (BP (α:=a.den) es key ((BA (α:=a.den) es key).getD b.zero)))] }
     |false=>none
    |_,_,_=>none
   |_=>none
  |_,_=>none
def Ff[Lk](P:Program)(E:Env)(R:Type)(m:Operand)(s:Operand)(v:Operand)(ty:TypeId)(ρ:Operand→AV)(H:List Ob)(fz:List Bool)(slot:Nat)(k:AV→Eff→Option R):Option R:=
 match ρ m,ρ s with
  |.mp id,.data (.int .i64) i=>match H[id]? with
   |some (.map a b es)=>match FM H b (ρ v)with
    |some (val,fr)=>match(ile (0:Int) i&&ilt i (A4 es))with
     |true=>k .Cr { objs:=[(id,.map a b (AIp es i val))],frz:=fr }
     |false=>none
    |none=>none
   |_=>none
  |_,_=>none
def KI[Lk](P:Program)(E:Env)(R:Type)(x:Operand)(i:Nat)(ty:TypeId)(ρ:Operand→AV)(H:List Ob)(fz:List Bool)(slot:Nat)(k:AV→Eff→Option R):Option R:=
 match ρ x with
  |.tup vs=>match vs[i]? with
   |some v=>k v {}
   |none=>none
  |_=>none
def Mc[Lk](P:Program)(E:Env)(R:Type)(args:Array Operand)(argTypes:Array TypeId)(ty:TypeId)(ρ:Operand→AV)(H:List Ob)(fz:List Bool)(slot:Nat)(k:AV→Eff→Option R):Option R:=
 match args.toList,argTypes.toList with
  |[x],[T]=>match P.underlying T with
   |some (.slice _)=>match ρ x with
    |.data (.slice _) xs=>k (.data (.int .i64) (A4 xs)) {}
    |.nils _=>k (.data (.int .i64) (0:Int)) {}
    |.own id=>match H[id]? with
     |some (.arr _ _ xs)=>k (.data (.int .i64) (A4 xs)) {}
     |some (.prs _ _ is)=>k (.data (.int .i64) (A4 is)) {}
     |_=>none
    |.win id _ n=>match DW H id with
     |true=>k (.data (.int .i64) (n:Int)) {}
     |false=>none
    |_=>none
   |some (.map _ _)=>match ρ x with
    |.mp id=>match H[id]? with
     |some (.map _ _ es)=>k (.data (.int .i64) (A4 es)) {}
     |_=>none
    |_=>none
   |_=>none
  |_,_=>none
def De[Lk](P:Program)(E:Env)(R:Type)(args:Array Operand)(argTypes:Array TypeId)(ty:TypeId)(ρ:Operand→AV)(H:List Ob)(fz:List Bool)(slot:Nat)(k:AV→Eff→Option R):Option R:=
 match args.toList,argTypes.toList with
  |[s,x],[T,T']=>match sliceAt P T,decide (T=T')with
   |some (e,t),true=>match FM H (.slice t) (ρ x),zeroAt P e,(P.info? e).map (fun i=>decide (i.bytes≤1024))with
    |some (ys,_),some _,some true=>match ρ s with
     |.nils _=>match fits (A4 ys)with
      |true=>(match Bc H fz slot with|true=>k (.own slot) { objs:=[(slot,.arr e t ys)] }|false=>none)
      |false=>none
     |.clip _ xs=>match(Lc xs:Option (List t.den)),ys.isEmpty with
      |some xs,false=>match fits (A4 xs+A4 ys)with
       |true=>(match Bc H fz slot with|true=>k (.own slot) { objs:=[(slot,.arr e t (BT xs ys))] }|false=>none)
       |false=>none
      |_,_=>none
     |.own id=>match H[id]? with
      |some (.arr e' _ xs)=>match BJ fz id&&decide (e=e')with
       |true=>match(Lc xs:Option (List t.den))with
        |some xs=>match fits (A4 xs+A4 ys)with
         |true=>match E.keep with
          |true=>k (.data (.slice t) (BT xs ys)) { frz:=[id] }
          |false=>(match Bc H fz slot with|true=>k (.own slot) { objs:=[(id,.dead),(slot,.arr e t (BT xs ys))] }|false=>none)
         |false=>none
        |none=>none
       |false=>none
      |_=>none
     |.rowp id i ver=>match H[id]? with
      |some (.rows K e' t' xs ver' none)=>match BJ fz id&&(decide (e=e')&&decide (ver=ver'))with
       |true=>match(Lc (t:=.slice t') xs:Option (List (Ty.slice t).den))with
        |some xs=>match fits (A4 (A7 xs i [])+A4 ys)with
         |true=>k (.rowp id i (ver+1)) { objs:=[(id,.rows K e t (K.put xs i (BT (A7 xs i []) ys)) (ver+1) (some i))] }
         |false=>none
        |none=>none
       |false=>none
      |_=>none
     |.win id 0 n=>match H[id]? with
      |some (.arr e' _ xs)=>match BJ fz id&&decide (e=e')with
       |true=>match(Lc xs:Option (List t.den))with
        |some xs=>match fits ((n:Int)+A4 ys)with
         |true=>(match Bc H fz slot with|true=>k (.own slot) { objs:=[(id,.dead),(slot,.arr e t (BT (C1 n xs) ys))] }|false=>none)
         |false=>none
        |none=>none
       |false=>none
      |_=>none
     |_=>none
    |_,_,_=>none
   |some (e,t),false=>match ρ s,ρ x,zeroAt P e,K6 P T',(P.info? e).map (fun i=>decide (i.bytes≤1024))with
    |.nils _,.data (.int _) n,some _,some _,some true=>match CZ n with
     |true=>(match Bc H fz slot with|true=>k (.own slot) { objs:=[(slot,.arr e t (DD (A3 n) t.zero))] }|false=>none)
     |false=>none
    |_,_,_,_,_=>none
   |none,true=>match cellAt P T,ρ x with
    |some e,.own ix=>match H[ix]? with
     |some (.prs e1 tgt ys)=>match decide (e1=e)with
      |true=>match ρ s with
       |.nils _=>match fits (A4 ys)with
        |true=>(match Bc H fz slot with|true=>k (.own slot) { objs:=[(slot,.prs e tgt ys)] }|false=>none)
        |false=>none
       |.own id=>match H[id]? with
        |some (.prs e2 tgt2 xs)=>match decide (e2=e)&&decide (tgt2=tgt)with
         |true=>match fits (A4 xs+A4 ys)with
          |true=>(match Bc H fz slot with|true=>k (.own slot) { objs:=[(id,.dead),(slot,.prs e tgt (BT xs ys))] }|false=>none)
          |false=>none
         |false=>none
        |_=>none
       |_=>none
      |false=>none
     |_=>none
    |_,_=>none
   |_,_=>none
  |_,_=>none
def AE5[Lk](P:Program)(E:Env)(R:Type)(args:Array Operand)(argTypes:Array TypeId)(ty:TypeId)(ρ:Operand→AV)(H:List Ob)(fz:List Bool)(slot:Nat)(k:AV→Eff→Option R):Option R:=
 match args.toList,argTypes.toList with
  |[x],[T]=>match P.underlying T,ρ x with
   |some (.slice _),.nils _=>k (.data (.int .i64) (0:Int)) {}
   |_,_=>none
  |_,_=>none
def AE3[Lk](P:Program)(E:Env)(R:Type)(args:Array Operand)(ty:TypeId)(ρ:Operand→AV)(H:List Ob)(fz:List Bool)(slot:Nat)(k:AV→Eff→Option R):Option R:=
 match args.toList with
  |[x,y]=>match ρ x,ρ y with
   |.data (.int j) a,.data (.int _) b=>k (.data (.int j) (Cb a b)) {}
   |_,_=>none
  |_=>none
def AE4[Lk](P:Program)(E:Env)(R:Type)(args:Array Operand)(ty:TypeId)(ρ:Operand→AV)(H:List Ob)(fz:List Bool)(slot:Nat)(k:AV→Eff→Option R):Option R:=
 match args.toList with
  |[x,y]=>match ρ x,ρ y with
   |.data (.int j) a,.data (.int _) b=>k (.data (.int j) (imax a b)) {}
   |_,_=>none
  |_=>none
def Hb[Lk](P:Program)(E:Env)(R:Type)(args:Array Operand)(argTypes:Array TypeId)(ty:TypeId)(ρ:Operand→AV)(H:List Ob)(fz:List Bool)(slot:Nat)(k:AV→Eff→Option R):Option R:=
 match args.toList,argTypes.toList with
  |[x],[T]=>match sliceAt P T with
   |some (e,t)=>match zeroAt P e with
    |some _=>match ρ x with
     |.nils _=>k .Cr {}
     |.own id=>match H[id]? with
      |some (.arr e' t' xs)=>match BJ fz id&&decide (t=t')with
       |true=>k .Cr { objs:=[(id,.arr e' t' (Dg 0 xs.length t'.zero xs))] }
       |false=>none
      |_=>none
     |.win id off n=>match H[id]? with
      |some (.arr e' t' xs)=>match BJ fz id&&decide (t=t')with
       |true=>k .Cr { objs:=[(id,.arr e' t' (Dg off n t'.zero xs))] }
       |false=>none
      |_=>none
     |_=>none
    |none=>none
   |none=>none
  |_,_=>none
def Jn[Lk](P:Program)(E:Env)(R:Type)(f:Operand)(args:Array Operand)(ty:TypeId)(ρ:Operand→AV)(H:List Ob)(fz:List Bool)(slot:Nat)(k:AV→Eff→Option R):Option R:=
 match ρ f with
  |.clo g caps=>E.spec g R (args.toList.map ρ++caps) H fz slot k
  |.bnd g fs=>E.spec g R (fs++args.toList.map ρ) H fz slot k
  |_=>none
def evalOp[Lk](P:Program)(E:Env)(R:Type)(o:Op)(ty:TypeId)(ρ:Operand→AV)(H:List Ob)(fz:List Bool)(slot:Nat)(k:AV→Eff→Option R):Option R:=
 match o with
 |.move x|.assign x=>match ρ x with
  |.nils .unit=>k (AOZ P ty) {}
  |v=>k v {}
 |.pick c a b=>Sf P E R c a b ty ρ H fz slot k
 |.alloc T=>Nd P E R T ty ρ H fz slot k
 |.box T x=>sd P E R T x ty ρ H fz slot k
 |.build T parts=>LH P E R T parts ty ρ H fz slot k
 |.buildSlice T len parts=>Ei P E R T len parts ty ρ H fz slot k
 |.load T a=>Jm P E R T a ty ρ H fz slot k
 |.store T a x=>Gh P E R T a x ty ρ H fz slot k
 |.nilCheck x=>DU P E R x ty ρ H fz slot k
 |.binOp op T x y _=>DO P E R op T x y ty ρ H fz slot k
 |.unOp op _ x=>Se P E R op x ty ρ H fz slot k
 |.convert src dst x=>GR P E R src dst x ty ρ H fz slot k
 |.makeInterface T x=>Ey P E R T x ty ρ H fz slot k
 |.typeAssert x _ T ok=>Eh P E R x T ok ty ρ H fz slot k
 |.makeFunc (.func f) first cs=>E_ P E R f first cs ty ρ H fz slot k
 |.makeMap T none=>H0 P E R T ty ρ H fz slot k
 |.makeSlice T l c=>G5 P E R T l c ty ρ H fz slot k
 |.slice T x lo hi mx=>DN P E R T x lo hi mx ty ρ H fz slot k
 |.fieldAddr T x f=>Dk P E R T x f ty ρ H fz slot k
 |.field T x f=>Qr P E R T x f ty ρ H fz slot k
 |.indexAddr T x i=>CH P E R T x i ty ρ H fz slot k
 |.index T x i=>LG P E R T x i ty ρ H fz slot k
 |.lookup T m x ok=>EM P E R T m x ok ty ρ H fz slot k
 |.mapUpdate T m x v=>FJ P E R T m x v ty ρ H fz slot k
 |.insert T m x v=>Md P E R T m x v ty ρ H fz slot k
 |.mapEntry T m x=>GQ P E R T m x ty ρ H fz slot k
 |.entryStore _ m s v=>Ff P E R m s v ty ρ H fz slot k
 |.extract x i=>KI P E R x i ty ρ H fz slot k
 |.call { callee:=.builtin .len,args,argTypes }=>Mc P E R args argTypes ty ρ H fz slot k
 |.call { callee:=.builtin .append,args,argTypes }=>De P E R args argTypes ty ρ H fz slot k
 |.call { callee:=.builtin .cap,args,argTypes }=>AE5 P E R args argTypes ty ρ H fz slot k
 |.call { callee:=.builtin .min,args,.. }=>AE3 P E R args ty ρ H fz slot k
 |.call { callee:=.builtin .max,args,.. }=>AE4 P E R args ty ρ H fz slot k
 |.call { callee:=.builtin .clear,args,argTypes }=>Hb P E R args argTypes ty ρ H fz slot k
 |.call { callee:=.value f,args,.. }=>Jn P E R f args ty ρ H fz slot k
 |_=>none
def St.put(s:St)(d:Option Tmp)(v:AV):St:=
 match d with
 |some d=>{ s with tmps:=s.tmps.set d v }
 |none=>s
def Cy(e:Eff)(H:List Ob):List Ob:=Br e.objs (match e.heap with
 |none=>H
 |some p=>p.1)
def Ev(e:Eff)(fz:List Bool):List Bool:=BI e.frz (match e.heap with
 |none=>fz
 |some p=>p.2)
def St.app(s:St)(e:Eff):St:={ s with heap:=Cy e s.heap,frz:=Ev e s.frz }
def CK:AV:=.tup []
def guarded(R:Type)(all:List Oper)(g:Option (Nat×Bool))(st:St)(yes no:St→Option R):Option R:=
 match g with
 |none=>yes st
 |some (j,want)=>match(all[j]?).bind (·.dst)with
  |none=>none
  |some d=>match st.tmps.f d with
   |.data .bool b=>match b with
    |true=>match want with
     |true=>yes { st with tmps:=st.tmps.set d (.data .bool true) }
     |false=>no { st with tmps:=st.tmps.set d (.data .bool true) }
    |false=>match want with
     |true=>no { st with tmps:=st.tmps.set d (.data .bool false) }
     |false=>yes { st with tmps:=st.tmps.set d (.data .bool false) }
   |.tup []=>no st
   |_=>none
def FQ[Lk](P:Program)(E:Env)(R:Type)(all:List Oper):List Oper→Nat→St→(St→Option R)→Option R
 |[],_,st,k=>k st
 |o::rest,slot,st,k=>
  guarded R all o.guard st
   (fun st=>evalOp P E R o.op o.type (BY st.tmps) st.heap st.frz slot fun v e=>FQ P E R all rest (slot+slotsOf o.op) ((st.app e).put o.dst v) k)
   (fun st=>FQ P E R all rest (slot+slotsOf o.op) (st.put o.dst CK) k)
def Cq(ops:List Oper):Nat:=(ops.map fun o=>slotsOf o.op).foldr (· + ·) 0
def St.pad(s:St)(n:Nat):St:={ s with heap:=s.heap++List.replicate n .free,frz:=s.frz++List.replicate n false }
def GF[Lk](P:Program)(E:Env)(R:Type)(ops:List Oper)(st:St)(k:St→Option R):Option R:=
 nf st.heap.length fun n=>FQ P E R ops ops n (st.pad (Cq ops)) k
mutual
def BS:AV→List Nat
 |.agg cs=>B1 cs
 |.own id=>[id]
 |.win id _ _=>[id]
 |.ptr id _=>[id]
 |.eptr id _ _=>[id]
 |.dptr cs=>B1 cs
 |.clo _ cs=>B1 cs
 |.bnd _ cs=>B1 cs
 |.mp id=>[id]
 |.rowp id _ _=>[id]
 |.aptr id _=>[id]
 |.tup vs=>B1 vs
 |_=>[]
def B1:List AV→List Nat
 |[]=>[]
 |v::vs=>BS v++B1 vs
end
def HE(ρ:Operand→AV)(o:Op):List Nat:=o.operands.toList.flatMap fun x=>BS (ρ x)
def Jt(ρ:Operand→AV)(o:Op):List Nat:=
 match o with
 |.move _=>[]
 |.assign _=>[]
 |.pick _ _ _=>[]
 |.extract _ _=>[]
 |.build _ _=>[]
 |.makeFunc _ _ _=>[]
 |.store T a x=>match ρ a with
  |.ptr id _=>[id]
  |_=>HE ρ (.store T a x)
 |o=>HE ρ o
def writer:Op→Bool
 |.store ..=>true
 |.mapUpdate ..=>true
 |.insert ..=>true
 |.mapEntry ..=>true
 |.entryStore ..=>true
 |.call { callee:=.builtin .append,.. }=>true
 |.call { callee:=.builtin .clear,.. }=>true
 |_=>false
def FV(E:Env)(ρ:Operand→AV):Op→Bool
 |.call { callee:=.value f,.. }=>match ρ f with
  |.clo g _=>E.loc g
  |.bnd g _=>E.loc g
  |_=>false
 |_=>true
def rd(φ:List Nat)(i:Nat):Bool:=φ.contains (2*i)||φ.contains (2*i+1)
def wt(φ:List Nat)(i:Nat):Bool:=φ.contains (2*i+1)
def ED(ρ:Operand→AV)(o:Op):List Nat:=
 match o with
 |.store _ a _=>BS (ρ a)
 |.mapUpdate _ m _ _=>BS (ρ m)
 |.insert _ m _ _=>BS (ρ m)
 |.mapEntry _ m _=>BS (ρ m)
 |.entryStore _ m _ _=>BS (ρ m)
 |.call { callee:=.builtin .append,args,.. }=>match args.toList with
  |s::_=>BS (ρ s)
  |[]=>[]
 |.call { callee:=.builtin .clear,args,.. }=>match args.toList with
  |s::_=>BS (ρ s)
  |[]=>[]
 |_=>[]
def within(l φ:List Nat):Bool:=l.all (rd φ)
def ND(l φ:List Nat):Bool:=l.all (wt φ)
def Qx(wr:Bool)(φ:List Nat)(slot n:Nat)(e:Eff):Bool:=
 e.heap.isNone&&(e.objs.all fun p=>(decide (slot≤p.1)&&decide (p.1<slot+n))||(wr&&wt φ p.1))&&within e.frz φ
def Cc:Op→Bool
 |.move _=>true
 |.assign _=>true
 |.pick _ _ _=>true
 |.binOp _ _ _ _ _=>true
 |.unOp _ _ _=>true
 |.extract _ _=>true
 |_=>false
def Kk(φ:List Nat):Bool:=φ.contains 1000003
def DV:Op→Bool
 |.load _ _=>true
 |.convert _ _ _=>true
 |.fieldAddr _ _ _=>true
 |.field _ _ _=>true
 |.indexAddr _ _ _=>true
 |.index _ _ _=>true
 |.nilCheck _=>true
 |.lookup _ _ _ _=>true
 |.slice _ _ _ _ none=>true
 |.build _ _=>true
 |.makeFunc (.func _) _ _=>true
 |.call { callee:=.builtin .len,.. }=>true
 |o=>Cc o
def Lm(φ:List Nat):Bool:=φ.contains 1000005
def SA(E:Env)(ρ:Operand→AV):Op→Bool
 |.call { callee:=.value f,.. }=>match ρ f with
  |.clo g _=>E.GL g
  |.bnd g _=>E.GL g
  |_=>false
 |_=>false
def Ng(φ:List Nat)(H:List Ob):Bool:=φ.all fun c=>match H[c/2]? with
 |some (.box cs)=>(B1 cs).all (wt φ)
 |_=>true
def KZ(E:Env)(ρ:Operand→AV)(o:Op)(φ:List Nat)(H:List Ob):Bool:=
 (HE ρ o).all (wt φ)&&Ng φ H&&(φ.all fun c=>c % 2==1)&&SA E ρ o
def Pa[Lk](P:Program)(E:Env)(R:Type)(all:List Oper)(o:Oper)(φ:List Nat)(slot:Nat)(st:St)(k:St→Option R):Option R:=
 guarded R all o.guard st
  (fun st=>match Kk φ||((Lm φ&&KZ E (BY st.tmps) o.op φ st.heap)||(!(Lm φ)&&(within (Jt (BY st.tmps) o.op) φ&&ND (ED (BY st.tmps) o.op) φ&&FV E (BY st.tmps) o.op)))with
   |true=>evalOp P E R o.op o.type (BY st.tmps) st.heap st.frz slot fun v e=>match Kk φ||Qx (writer o.op||Lm φ) φ slot (slotsOf o.op) e with
    |true=>k ((st.app e).put o.dst v)
    |false=>none
   |false=>none)
  (fun st=>k (st.put o.dst CK))
def JA[Lk](P:Program)(E:Env)(R:Type)(all:List Oper):List Oper→List (List Nat)→Nat→St→(St→Option R)→Option R
 |[],_,_,st,k=>k st
 |o::rest,fp,slot,st,k=>Pa P E R all o (fp.headD []) slot st fun st=>JA P E R all rest fp.tail (slot+slotsOf o.op) st k
def apart?(ops:List Oper)(x y:Oper):Bool:=Oper.apart ops.toArray x y
def WC:Op→Op→Bool
 |.lookup _ _ _ ok,.mapEntry _ _ _ => !ok
 |_,_=>false
def indep(all:List Oper)(x y:Oper)(φx φy:List Nat)(sx sy:Nat):Bool:=
 apart? all x y&&((Kk φx&&Cc y.op)||(Kk φy&&Cc x.op)||(!(Kk φx) && !(Kk φy)&&(φy.all fun c => !(decide (sx≤c/2)&&decide (c/2<sx+slotsOf x.op)))&&(φx.all fun c => !(decide (sy≤c/2)&&decide (c/2<sy+slotsOf y.op))) &&
  (φx.all fun c=>decide (c % 2=0) || !(rd φy (c/2)))&&(φy.all fun c=>decide (c % 2=0) || !(rd φx (c/2))))||(!(Lm φx)&&(!(Lm φy)&&WC x.op y.op)))
def kS(y:Oper)(i:Nat):Bool:=y.after.toList.any fun e=>Region.binds .any e&&decide (e.on=i)
def reach(all:List Oper):Nat→Oper→Nat→Bool
 |0,_,_=>false
 |n+1,y,i=>kS y i||y.after.toList.any fun e=>Region.binds .any e&&match all[e.on]? with
  |some z=>reach all n z i
  |none=>false
def WB(all:List Oper)(y:Oper)(φy:List Nat)(sy:Nat):List (Nat×Oper×List Nat×Nat)→Bool
 |[]=>true
 |(i,x,φx,sx)::r=>(kS y i||(indep all x y φx φy sx sy||reach all 8 y i))&&WB all y φy sy r
def Xt(all:List Oper):List Oper→List (List Nat)→Nat→Nat→List (Nat×Oper×List Nat×Nat)→Bool
 |[],_,_,_,_=>true
 |o::rest,fp,i,slot,acc=>WB all o (fp.headD []) slot acc&&(o.after.toList.all fun e => !Region.binds .any e||decide (e.on<i)) &&
  Xt all rest fp.tail (i+1) (slot+slotsOf o.op) ((i,o,fp.headD [],slot)::acc)
def E6[Lk](P:Program)(E:Env)(R:Type)(fp:List (List Nat))(ops:List Oper)(st:St)(k:St→Option R):Option R:=
 nf st.heap.length fun n=>match P.follows .mixedOrders&&Xt ops ops fp 0 n []with
 |true=>JA P E R ops ops fp n (st.pad (Cq ops)) k
 |false=>none
def TZ(E:Env)(ops:List Oper):Bool:=ops.any fun o=>match o.op with
 |.panic _=>true
 |.call { callee:=.value (.func f),.. }=>(E.pan f).isSome
 |_=>false
def TY(E:Env)(ρ:Operand→AV)(o:Oper):Option (PV⊕(KS×List AV)):=
 match o.guard with
 |some _=>none
 |none=>match o.op with
  |.panic x=>match ρ x with
   |.ifc (some p)=>some (.inl p)
   |_=>none
  |.call { callee:=.value (.func f),args,.. }=>match E.pan f with
   |some s=>some (.inr (s,args.toList.map ρ))
   |none=>none
  |_=>none
def Fv:List Oper→St→St
 |[],st=>st
 |o::r,st=>Fv r (st.put o.dst .Cr)
def jk(dr:Bool)(all:List Oper)(st:St):St:=match dr with
 |true=>Fv all st
 |false=>st
def ANO(E:Env)(o:Oper)(φ:List Nat)(st:St):Bool:=
 Kk φ||((Lm φ&&KZ E (BY st.tmps) o.op φ st.heap)||(!(Lm φ)&&(within (Jt (BY st.tmps) o.op) φ&&ND (ED (BY st.tmps) o.op) φ&&FV E (BY st.tmps) o.op)))
def Ch[Lk](P:Program)(E:Env)(R:Type)(dr:Bool)(all:List Oper):List Oper→List (List Nat)→Nat→St→(Exit→St→Option R)→Option R
 |[],_,_,st,k=>k .normal st
 |o::rest,fp,slot,st,k=>match TY E (BY st.tmps) o with
  |none=>match dr with
   |true=>Pa P E R all o (fp.headD []) slot st fun st=>Ch P E R dr all rest fp.tail (slot+slotsOf o.op) st k
   |false=>guarded R all o.guard st
    (fun st=>evalOp P E R o.op o.type (BY st.tmps) st.heap st.frz slot fun v e=>Ch P E R dr all rest fp.tail (slot+slotsOf o.op) ((st.app e).put o.dst v) k)
    (fun st=>Ch P E R dr all rest fp.tail (slot+slotsOf o.op) (st.put o.dst CK) k)
  |some (.inl p)=>k (.panic [Cz p]) (jk dr all st)
  |some (.inr (s,args))=>s R args st.heap st.frz slot
   (fun v e=>match !dr||(ANO E o (fp.headD []) st&&(Kk (fp.headD [])||Qx (writer o.op||Lm (fp.headD [])) (fp.headD []) slot (slotsOf o.op) e))with
    |true=>Ch P E R dr all rest fp.tail (slot+slotsOf o.op) ((st.app e).put o.dst v) k
    |false=>none)
   (fun p e=>k (.panic [Cz p]) (jk dr all (st.app e)))
def AEH(E:Env)(all:List Oper)(i:Nat)(o:Oper):Bool:=
 match TZ E [o]with
 |false=>true
 |true=>(List.range all.length).all fun j=>match all[j]? with
  |none=>true
  |some x=>match decide (j<i)with
   |true=>reach all 8 o j||DV x.op
   |false=>decide (j=i)||(reach all 8 x i||(x.guard.isNone&&(match x.op with
    |.move _=>true
    |_=>false)))
def IP[Lk](P:Program)(E:Env)(R:Type)(fp:List (List Nat))(dr:Bool)(ops:List Oper)(st:St)(k:Exit→St→Option R):Option R:=
 nf st.heap.length fun n=>match !dr||(P.follows .mixedOrders&&(Xt ops ops fp 0 n []&&((List.range ops.length).all fun i=>match ops[i]? with
  |some o=>AEH E ops i o
  |none=>true)))with
 |true=>Ch P E R dr ops ops fp n (st.pad (Cq ops)) k
 |false=>none
def loops:Code→Nat
 |.seq a b=>loops a+loops b
 |.cond _ a b=>loops a+loops b
 |.block _ c=>loops c
 |.scope c=>loops c
 |.loop c=>loops c+1
 |_=>0
noncomputable def ON(tmps:Tm)(c:Operand)(b:Bool):Tm:=
 match c with
 |.tmp t=>tmps.set t (.data .bool b)
 |_=>tmps
def Bl[Lk](P:Program)(E:Env)(h:Hints)(R:Type):Code→Nat→St→(Exit→St→Option R)→Option R
 |.skip,_,st,k=>k .normal st
 |.region id ops draw,_,st,k=>match TZ E ops.toList with
  |true=>IP P E R (h.fp id) draw ops.toList st k
  |false=>match draw with
   |false=>GF P E R ops.toList st (k .normal)
   |true=>E6 P E R (h.fp id) ops.toList st (k .normal)
 |.seq a b,n,st,k=>Bl P E h R a n st fun e st=>match e with
  |.normal=>Bl P E h R b (n+loops a) st k
  |e=>k e st
 |.cond c a b,n,st,k=>match BY st.tmps c with
  |.data .bool x=>match x with
   |true=>Bl P E h R a n { st with tmps:=ON st.tmps c true } k
   |false=>Bl P E h R b (n+loops a) { st with tmps:=ON st.tmps c false } k
  |_=>none
 |.block id c,n,st,k=>Bl P E h R c n st fun e st=>match e with
  |.exit id'=>match decide (id'=id)with
   |true=>k .normal st
   |false=>k (.exit id') st
  |e=>k e st
 |.loop _,n,st,k=>h.loop n R st k
 |.exit id,_,st,k=>k (.exit id) st
 |.ret,_,st,k=>k .ret st
 |_,_,_,_=>none
def Po(P:Program)(st:St):ResultVar→Option AV
 |.tmp t=>some (st.tmps.f t)
 |.cell t T=>match BY st.tmps (.tmp t),CD P T,Ew P T with
  |.ptr id off,some n,some ag=>match st.heap[id]? with
   |some (.box cs)=>loadCells ag n (cs.drop off)
   |_=>none
  |_,_,_=>none
def D5(P:Program)(st:St):List ResultVar→Option (List AV)
 |[]=>some []
 |r::rs=>match Po P st r with
  |none=>none
  |some v=>match D5 P st rs with
   |none=>none
   |some vs=>some (v::vs)
end
end Go.Pev
end
section
namespace Go.Pev
noncomputable section
inductive Loc where
 |tmp (t:Nat)
 |cell (j c:Nat)
 |cap (t i:Nat)
 |obj (j:Nat)
inductive Con where
 |dat (t:Ty)
 |own (T:TypeId) (e:Ty)
 |box (n:Nat)
 |map (k v:Ty)
 |own' (j:Nat)
 |ptr' (j off:Nat)
 |map' (j:Nat)
 |win' (j:Nat)
 |sub' (j:Nat)
 |clo (f:FuncId) (ps:List (Nat×Nat))
 |bnd (f:FuncId) (j:Nat)
 |prs (T:TypeId) (j:Nat)
 |nil (e:Ty)
 |rows (T e:TypeId) (t:Ty)
 |mrows (j:IntKind) (e:TypeId) (t:Ty)
 |aptr (T:TypeId) (e:Ty) (n:Nat)
 |aptr' (j n:Nat)
 |bndp (f:FuncId) (j:Nat)
 |nilp
abbrev Con.di:Con:=.dat (.int .i64)
abbrev A1:=List (Loc×Con)
def leaves:A1→List Ty
 |[]=>[]
 |(_,.dat t)::r=>t::leaves r
 |(_,.own _ e)::r=>.slice e::leaves r
 |(_,.map k v)::r=>.slice (.prod k v)::leaves r
 |(_,.win' _)::r=>.int .i64::leaves r
 |(_,.prs _ _)::r=>.slice (.int .i64)::leaves r
 |(_,.sub' _)::r=>.int .i64 :: .int .i64::leaves r
 |(_,.rows _ _ t)::r=>.slice (.slice t)::leaves r
 |(_,.mrows j _ t)::r=>.mapi j (.slice t)::leaves r
 |(_,.aptr _ e _)::r=>.slice e::leaves r
 |(_,_)::r=>leaves r
inductive Bnd where
 |none
 |whole (id:Nat)
 |cut (id:Nat)
 deriving DecidableEq
def Bnd.id? : Bnd→Option Nat
 |.none=>Option.none
 |.whole id=>some id
 |.cut id=>some id
def AUh(H:List Ob)(j:Nat):Option AV:=
 match H[j]? with
 |some (.arr _ _ _)=>some (.own j)
 |some (.box _)=>some (.ptr j 0)
 |some (.map _ _ _)=>some (.mp j)
 |some (.prs _ _ _)=>some (.own j)
 |some (.rows (.arr _) _ _ _ _ _)=>some (.own j)
 |some (.rows (.map _ _) _ _ _ _ _)=>some (.mp j)
 |_=>none
def look(tm:Nat→Option AV)(H:List Ob)(bs:List Bnd):Loc→Option AV
 |.tmp t=>tm t
 |.cell j c=>match bs[j]? with
  |some (.whole id)=>match H[id]? with
   |some (.box cs)=>cs[c]?
   |_=>none
  |_=>none
 |.cap t i=>match tm t with
  |some (.clo _ cs)=>cs[i]?
  |some (.bnd _ cs)=>cs[i]?
  |_=>none
 |.obj j=>AUh H j
def AKf(bs:List Bnd):List AV→List (Nat×Nat)→Bool
 |[],[]=>true
 |.ptr id o::vs,(j,o')::ps=>(match bs[j]? with
  |some (.whole id')=>decide (id=id')&&decide (o=o')
  |_=>false)&&AKf bs vs ps
 |_,_=>false
def fresh?(bs:List Bnd)(id:Nat):Bool:=bs.all fun b=>match b with
 |.none=>true
 |.whole i => !(decide (i=id))
 |.cut i => !(decide (i=id))
abbrev AXY(α:Type):=Option (α×List Bnd×List Nat)
def dec(tm:Nat→Option AV)(H:List Ob):(its:A1)→List Bool→List Bnd→AXY (Bg (leaves its))
 |[],_,bs=>some ((),bs,[])
 |(l,.dat t)::r,fz,bs=>match look tm H bs l with
  |some v=>match ZM H t v with
   |some (x,f)=>match f.all (fresh? bs)with
    |true=>match dec tm H r (BI f fz) bs with
     |some (xs,bs',g)=>some ((x,xs),bs',f++g)
     |none=>none
    |false=>none
   |none=>none
  |none=>none
 |(l,.own T e)::r,fz,bs=>match look tm H bs l with
  |some (.nils _)=>match decide (0<e.size)with
   |true=>match dec tm H r fz (bs++[.none])with
    |some (xs,bs',g)=>some (([],xs),bs',g)
    |none=>none
   |false=>none
  |some (.own id)=>match H[id]?,BJ fz id&&fresh? bs id with
   |some (.arr T' e' ys),true=>match decide (T=T'),(Lc ys:Option (List e.den))with
    |true,some ys=>match dec tm H r fz (bs++[.whole id])with
     |some (xs,bs',g)=>some ((ys,xs),bs',g)
     |none=>none
    |_,_=>none
   |_,_=>none
  |some (.win id 0 n)=>match H[id]?,BJ fz id&&fresh? bs id with
   |some (.arr T' e' ys),true=>match decide (T=T'),(Lc ys:Option (List e.den))with
    |true,some ys=>match dec tm H r fz (bs++[.cut id])with
     |some (xs,bs',g)=>some ((C1 n ys,xs),bs',g)
     |none=>none
    |_,_=>none
   |_,_=>none
  |_=>none
 |(l,.box n)::r,fz,bs=>match look tm H bs l with
  |some (.ptr id 0)=>match H[id]?,fresh? bs id with
   |some (.box cs),true=>match decide (cs.length=n)with
    |true=>dec tm H r fz (bs++[.whole id])
    |false=>none
   |_,_=>none
  |_=>none
 |(l,.map k v)::r,fz,bs=>match look tm H bs l with
  |some (.mp id)=>match H[id]?,fresh? bs id with
   |some (.map k' v' es),true=>match(Lc (t:=.prod k' v') es:Option (List (Ty.prod k v).den))with
    |some es=>match dec tm H r fz (bs++[.whole id])with
     |some (xs,bs',g)=>some ((es,xs),bs',g)
     |none=>none
    |_=>none
   |_,_=>none
  |_=>none
 |(l,.own' j)::r,fz,bs=>match look tm H bs l,bs[j]? with
  |some (.own id),some (.whole id')=>match decide (id=id')with
   |true=>dec tm H r fz bs
   |false=>none
  |_,_=>none
 |(l,.ptr' j off)::r,fz,bs=>match look tm H bs l,bs[j]? with
  |some (.ptr id o),some (.whole id')=>match decide (id=id')&&decide (o=off)with
   |true=>dec tm H r fz bs
   |false=>none
  |_,_=>none
 |(l,.map' j)::r,fz,bs=>match look tm H bs l,bs[j]? with
  |some (.mp id),some (.whole id')=>match decide (id=id')with
   |true=>dec tm H r fz bs
   |false=>none
  |_,_=>none
 |(l,.win' j)::r,fz,bs=>match look tm H bs l,bs[j]? with
  |some (.win id 0 n),some (.whole id')=>match decide (id=id')with
   |true=>match dec tm H r fz bs with
    |some (xs,bs',g)=>some (((n:Int),xs),bs',g)
    |none=>none
   |false=>none
  |some (.own id),some (.whole id')=>match decide (id=id'),H[id]? with
   |true,some (.arr _ _ ys)=>match dec tm H r fz bs with
    |some (xs,bs',g)=>some ((A4 ys,xs),bs',g)
    |none=>none
   |_,_=>none
  |_,_=>none
 |(l,.sub' j)::r,fz,bs=>match look tm H bs l,bs[j]? with
  |some (.win id off n),some (.whole id')=>match decide (id=id')with
   |true=>match dec tm H r fz bs with
    |some (xs,bs',g)=>some (((off:Int),(n:Int),xs),bs',g)
    |none=>none
   |false=>none
  |_,_=>none
 |(l,.clo f ps)::r,fz,bs=>match look tm H bs l with
  |some (.clo f' vs)=>match decide (f=f')&&AKf bs vs ps with
   |true=>dec tm H r fz bs
   |false=>none
  |_=>none
 |(l,.bnd f j)::r,fz,bs=>match look tm H bs l,bs[j]? with
  |some (.bnd f' [.own id]),some (.whole id')=>match decide (f=f')&&decide (id=id')with
   |true=>dec tm H r fz bs
   |false=>none
  |_,_=>none
 |(l,.prs T j)::r,fz,bs=>match look tm H bs l with
  |some (.nils _)=>match dec tm H r fz (bs++[.none])with
   |some (xs,bs',g)=>some ((([]:List Int),xs),bs',g)
   |none=>none
  |some (.own id)=>match H[id]?,fresh? bs id,bs[j]? with
   |some (.prs T' tgt is),true,some (.whole tgt')=>match decide (T=T')&&decide (tgt=tgt')with
    |true=>match dec tm H r fz (bs++[.whole id])with
     |some (xs,bs',g)=>some ((is,xs),bs',g)
     |none=>none
    |false=>none
   |_,_,_=>none
  |_=>none
 |(l,.nil _)::r,fz,bs=>match look tm H bs l with
  |some (.nils _)=>dec tm H r fz bs
  |_=>none
 |(l,.rows T e t)::r,fz,bs=>match look tm H bs l with
  |some (.own id)=>match H[id]?,BJ fz id&&fresh? bs id with
   |some (.rows (.arr T') e' t' ys _ none),true=>match decide (T=T')&&decide (e=e'),(Lc (t:=.slice t') ys:Option (List (Ty.slice t).den))with
    |true,some ys=>match dec tm H r fz (bs++[.whole id])with
     |some (xs,bs',g)=>some ((ys,xs),bs',g)
     |none=>none
    |_,_=>none
   |_,_=>none
  |_=>none
 |(l,.mrows j e t)::r,fz,bs=>match look tm H bs l with
  |some (.mp id)=>match H[id]?,BJ fz id&&fresh? bs id with
   |some (.rows (.map j' ks) e' t' ys _ none),true=>match decide (j=j')&&decide (e=e'),(Lc (t:=.slice t') ys:Option (List (Ty.slice t).den))with
    |true,some ys=>match dec tm H r fz (bs++[.whole id])with
     |some (xs,bs',g)=>some ((List.zip (β:=List t.den) ks ys,xs),bs',g)
     |none=>none
    |_,_=>none
   |_,_=>none
  |_=>none
 |(l,.aptr T e n)::r,fz,bs=>match look tm H bs l with
  |some (.aptr id n')=>match H[id]?,BJ fz id&&fresh? bs id with
   |some (.arr T' e' ys),true=>match decide (T=T')&&decide (n=n'),(Lc ys:Option (List e.den))with
    |true,some ys=>match dec tm H r fz (bs++[.whole id])with
     |some (xs,bs',g)=>some ((ys,xs),bs',g)
     |none=>none
    |_,_=>none
   |_,_=>none
  |_=>none
 |(l,.bndp f j)::r,fz,bs=>match look tm H bs l,bs[j]? with
  |some (.bnd f' [.ptr id 0]),some (.whole id')=>match decide (f=f')&&decide (id=id')with
   |true=>dec tm H r fz bs
   |false=>none
  |_,_=>none
 |(l,.nilp)::r,fz,bs=>match look tm H bs l with
  |some .nilp=>dec tm H r fz bs
  |_=>none
 |(l,.aptr' j n)::r,fz,bs=>match look tm H bs l,bs[j]? with
  |some (.aptr id n'),some (.whole id')=>match decide (id=id')&&decide (n=n')with
   |true=>dec tm H r fz bs
   |false=>none
  |_,_=>none
def place(st:St)(v:AV):Loc→St
 |.tmp t=>{ st with tmps:=st.tmps.set t v }
 |.cell j c=>match st.heap[j]? with
  |some (.box cs)=>{ st with heap:=st.heap.set j (.box (cs.set c v)) }
  |_=>st
 |_=>st
def ET(st:St)(o:Ob):St:={ st with heap:=st.heap++[o],frz:=st.frz++[false] }
def enc:(its:A1)→Bg (leaves its)→St→St
 |[],_,st=>st
 |(l,.dat t)::r,d,st=>enc r d.2 (place st (.data t d.1) l)
 |(l,.own T e)::r,d,st=>enc r d.2 (place (ET st (.arr T e d.1)) (.own st.heap.length) l)
 |(l,.box n)::r,d,st=>enc r d (place (ET st (.box (List.replicate n .Cr))) (.ptr st.heap.length 0) l)
 |(l,.map k v)::r,d,st=>enc r d.2 (place (ET st (.map k v d.1)) (.mp st.heap.length) l)
 |(l,.own' j)::r,d,st=>enc r d (place st (.own j) l)
 |(l,.ptr' j off)::r,d,st=>enc r d (place st (.ptr j off) l)
 |(l,.map' j)::r,d,st=>enc r d (place st (.mp j) l)
 |(l,.win' j)::r,d,st=>enc r d.2 (place st (.win j 0 (A3 d.1)) l)
 |(l,.sub' j)::r,d,st=>enc r d.2.2 (place st (.win j (A3 d.1) (A3 d.2.1)) l)
 |(l,.clo f ps)::r,d,st=>enc r d (place st (.clo f (ps.map fun p=>.ptr p.1 p.2)) l)
 |(l,.bnd f j)::r,d,st=>enc r d (place st (.bnd f [.own j]) l)
 |(l,.prs T j)::r,d,st=>enc r d.2 (place (ET st (.prs T j d.1)) (.own st.heap.length) l)
 |(l,.nil e)::r,d,st=>enc r d (place st (.nils e) l)
 |(l,.rows T e t)::r,d,st=>enc r d.2 (place (ET st (.rows (.arr T) e t d.1 0 none)) (.own st.heap.length) l)
 |(l,.mrows j e t)::r,d,st=>enc r d.2 (place (ET st (.rows (.map j (List.map (α:=Int×List t.den) Prod.fst d.1)) e t (List.map (α:=Int×List t.den) Prod.snd d.1) 0 none)) (.mp st.heap.length) l)
 |(l,.aptr T e n)::r,d,st=>enc r d.2 (place (ET st (.arr T e d.1)) (.aptr st.heap.length n) l)
 |(l,.aptr' j n)::r,d,st=>enc r d (place st (.aptr j n) l)
 |(l,.bndp f j)::r,d,st=>enc r d (place st (.bnd f [.ptr j 0]) l)
 |(l,.nilp)::r,d,st=>enc r d (place st .nilp l)
def blank(n:Nat):St:={ tmps:=⟨n,fun _=>.Cr⟩,heap:=[],frz:=[] }
def encode(n:Nat)(its:A1)(d:Bg (leaves its)):St:=enc its d (blank n)
def pins:Nat→Nat→List Bnd→Bool
 |0,_,_=>true
 |n+1,i,b::bs=>decide (b = .whole i)&&pins n (i+1) bs
 |_+1,_,[]=>false
def decode(np nt:Nat)(st:St)(its:A1):Option (Bg (leaves its)):=
 match decide (st.tmps.n=nt)with
 |true=>match dec st.tmps.at st.heap its st.frz []with
  |some (v,bs,_)=>match pins np 0 bs&&(st.heap.take np).all CA with
   |true=>some v
   |false=>none
  |none=>none
 |false=>none
abbrev BF:=List (Exit×A1)
@[reducible] def ZU:BF→Type
 |[]=>Unit
 |o::r=>Bg (leaves o.2)⊕ZU r
def XE:Exit→Exit→Bool
 |.normal,.normal=>true
 |.ret,.ret=>true
 |.exit a,.exit b=>decide (a=b)
 |_,_=>false
def Ta(np nt:Nat)(e:Exit)(st:St):(os:BF)→Option (ZU os)
 |[]=>none
 |o::r=>match XE e o.1 with
  |true=>match decode np nt st o.2 with
   |some d=>some (.inl d)
   |none=>none
  |false=>match Ta np nt e st r with
   |some x=>some (.inr x)
   |none=>none
def Yh(n:Nat){R:Type}(k:Exit→St→Option R):(os:BF)→ZU os→Option R
 |[],_=>none
 |o::r,x=>match x with
  |.inl d=>k o.1 (encode n o.2 d)
  |.inr x=>Yh n k r x
def BE{σ ρ:Type}(step:σ→Option (σ⊕ρ)):Nat→σ→Option ρ
 |0,_=>none
 |n+1,v=>match step v with
  |none=>none
  |some (.inl v')=>BE step n v'
  |some (.inr r)=>some r
def many:Nat:=18446744073709551616
def A9[Lk]{σ ρ:Type}(step:σ→Option (σ⊕ρ))(n:Nat)(v:σ):Option ρ:=Lk.f (BE step n v)
theorem Bf{σ ρ:Type}(step:σ→Option (σ⊕ρ))(n:Nat)(v:σ):A9 step n v=BE step n v:=A0 _
def pc(np nt:Nat)(its:A1)(os:BF)(e:Exit)(st:St):Option (Bg (leaves its)⊕ZU os):=
 match e with
 |.normal=>match decode np nt st its with
  |some d=>some (.inl d)
  |none=>none
 |e=>match Ta np nt e st os with
  |some x=>some (.inr x)
  |none=>none
def K0[Lk](np nt:Nat)(its:A1)(os:BF)(step:Bg (leaves its)→Option (Bg (leaves its)⊕ZU os)):ZV:=fun R st k=>
 match decode np nt st its with
 |none=>none
 |some v=>match A9 step many v with
  |none=>none
  |some r=>Yh nt k os r
def roundOf[Lk](P:Program)(E:Env)(h:Hints)(n np nt:Nat)(body:Code)(its:A1)(os:BF)(v:Bg (leaves its)):Option (Bg (leaves its)⊕ZU os):=
 Bl P E h _ body n (encode nt its v) (pc np nt its os)
inductive RS where
 |one
 |agg (n:Nat)
def Fb:List RS→List AV→Option (List AV)
 |[],[]=>some []
 |.one::r,v::vs=>match Fb r vs with
  |some l=>some (v::l)
  |none=>none
 |.agg n::r,v::vs=>match N' v,cells? v with
  |true,some cs=>match decide (cs.length=n)with
   |true=>match Fb r vs with
    |some l=>some (cs++l)
    |none=>none
   |false=>none
  |_,_=>none
 |_,_=>none
def Ea:List RS→List AV→List AV
 |[],_=>[]
 |.one::r,vs=>vs.headD .Cr::Ea r vs.tail
 |.agg n::r,vs=>.agg (vs.take n)::Ea r (vs.drop n)
def RS.cells:RS→Nat
 |.one=>1
 |.agg n=>n
def cellsOf:List RS→Nat
 |[]=>0
 |r::rs=>r.cells+cellsOf rs
def DS:A1→Nat
 |[]=>0
 |(_,.own _ _)::r=>DS r+1
 |(_,.box _)::r=>DS r+1
 |(_,.map _ _)::r=>DS r+1
 |(_,.prs _ _)::r=>DS r+1
 |(_,.rows _ _ _)::r=>DS r+1
 |(_,.mrows _ _ _)::r=>DS r+1
 |(_,.aptr _ _ _)::r=>DS r+1
 |_::r=>DS r
def GH:A1→Bool
 |[]=>true
 |(_,.rows _ _ _)::_=>false
 |(_,.mrows _ _ _)::_=>false
 |_::r=>GH r
def finish(np:Nat)(P:Program)(fn:Func)(outs:A1)(rs:List RS)(st:St):Option (Bg (leaves outs)):=
 match D5 P st fn.results.toList with
 |some vs=>match Fb rs vs with
  |some tm=>match dec (lk tm) st.heap outs st.frz []with
   |some (y,bs,_)=>match pins np 0 bs&&(st.heap.take np).all CA with
    |true=>some y
    |false=>none
   |none=>none
  |none=>none
 |none=>none
def Dp[Lk](np:Nat)(P:Program)(E:Env)(h:Hints)(fn:Func)(its outs:A1)(rs:List RS)(x:Bg (leaves its)):Option (Bg (leaves outs)):=
 match fn.body with
 |none=>none
 |some c=>Bl P E h _ c 0 (encode fn.ntmps its x) fun e st=>
  match e with
  |.normal=>finish np P fn outs rs st
  |.ret=>finish np P fn outs rs st
  |_=>none
def given:List Bnd→List Nat
 |[]=>[]
 |.whole id::bs=>id::given bs
 |_::bs=>given bs
def DA:Nat→List Bnd→Nat→List Nat
 |0,_,_=>[]
 |n+1,.whole id::bs,slot=>id::DA n bs slot
 |n+1,_::bs,slot=>slot::DA n bs (slot+1)
 |n+1,[],slot=>slot::DA n [] (slot+1)
mutual
def EF(ids:List Nat):AV→AV
 |.agg cs=>.agg (I1 ids cs)
 |.own id=>.own (ids.getD id 0)
 |.win id off n=>.win (ids.getD id 0) off n
 |.ptr id off=>.ptr (ids.getD id 0) off
 |.eptr id i s=>.eptr (ids.getD id 0) i s
 |.dptr cs=>.dptr (I1 ids cs)
 |.clo f cs=>.clo f (I1 ids cs)
 |.bnd f cs=>.bnd f (I1 ids cs)
 |.mp id=>.mp (ids.getD id 0)
 |.tup vs=>.tup (I1 ids vs)
 |.rowp _ _ _=>.Cr
 |.aptr id n=>.aptr (ids.getD id 0) n
 |v=>v
def I1(ids:List Nat):List AV→List AV
 |[]=>[]
 |v::vs=>EF ids v::I1 ids vs
end
def D'(ids:List Nat):Ob→Ob
 |.box cs=>.box (I1 ids cs)
 |.prs T tgt is=>.prs T (ids.getD tgt 0) is
 |o=>o
mutual
def Jk:AV→Bool
 |.data t _=>t.flat
 |.agg cs=>JU cs
 |.dptr _=>false
 |.clip _ _=>false
 |.clo _ cs=>JU cs
 |.bnd _ cs=>JU cs
 |.tup vs=>JU vs
 |_=>true
def JU:List AV→Bool
 |[]=>true
 |v::vs=>Jk v&&JU vs
end
def Mb:Ob→Bool
 |.box cs=>JU cs
 |.arr _ t _=>t.flat
 |.map k v _=>k.flat&&v.flat
 |_=>true
def FX(H:List Ob)(fz:List Bool):List Nat→List Bnd→Bool
 |[],_=>true
 |i::ids,bs=>(match bs with
  |.whole id::_=>decide (i=id)
  |_=>Bc H fz i)&&FX H fz ids bs.tail
def IS:List Nat→Bool
 |[]=>true
 |i::ids => !(ids.contains i)&&IS ids
def single:List AV→AV
 |[v]=>v
 |vs=>.tup vs
def Bnd.ACq:Bnd→Bool
 |.cut _=>false
 |_=>true
def Iv(R:Type)(gv:List Nat)(bs:List Bnd)(fr:List Nat)(rs:List RS)(E:St)(ids:List Nat)(H:List Ob)(fz:List Bool)(k:AV→Eff→Option R):Option R:=
 match JU E.tmps.list&&E.heap.all Mb with
 |true=>match FX H fz ids bs&&IS ids with
  |true=>k (single (Ea rs (I1 ids E.tmps.list))) { objs:=gv.map (fun i=>(i,.dead))++ids.zip (E.heap.map (D' ids)) }
  |false=>none
 |false=>match FX H (BI fr fz) ids bs&&IS ids with
  |true=>k (single (Ea rs (I1 ids E.tmps.list))) { objs:=gv.map (fun i=>(i,.dead))++ids.zip (E.heap.map (D' ids)),frz:=fr }
  |false=>none
def Bb(np na:Nat)(its outs:A1)(rs:List RS)(f:Bg (leaves its)→Option (Bg (leaves outs))):Spec:=fun R args H fz slot k=>
 match dec (lk args) H its fz []with
 |none=>none
 |some (x,bs,fr)=>match bs.all Bnd.ACq&&decide (bs.length=DS its)&&decide (args.length=na)&&(GH its&&GH outs)with
  |false=>none
  |true=>match f x with
   |none=>none
   |some y=>Iv R (given (bs.drop np)) (bs.take np) fr rs (encode (cellsOf rs) outs y) (DA (DS outs) (bs.take np) slot) H fz k
def CL[Lk](P:Program)(E:Env)(h:Hints)(fn:Func):Spec:=fun R args H fz _ k=>
 match fn.body with
 |none=>none
 |some c=>match decide (args.length≤fn.ntmps)with
  |false=>none
  |true=>Bl P E h R c 0 { tmps:=.of args fn.ntmps,heap:=H,frz:=fz } fun e st=>
   match e with
   |.normal=>match D5 P st fn.results.toList with
    |some vs=>k (single vs) { heap:=some (st.heap,st.frz) }
    |none=>none
   |.ret=>match D5 P st fn.results.toList with
    |some vs=>k (single vs) { heap:=some (st.heap,st.frz) }
    |none=>none
   |_=>none
end
end Go.Pev
end
section
namespace Go.Pev
open Go.RowKit
def rows{α:Type}(R:α→List Value→Prop):List α→List Value→Prop
 |[],cs=>cs=[]
 |x::xs,cs=>∃ c1 c2,cs=c1++c2∧R x c1∧rows R xs c2
def Ys{α β:Type}(K:α→Value→Prop)(V:β→Value→Prop):List (α×β)→List MapEntry→Prop
 |[],ms=>ms=[]
 |e::es,ms=>∃ me ms',ms=me::ms'∧K e.1 me.key∧V e.2 me.val∧Ys K V es ms'
def Dat(w:World)(F:Nat→Prop):(t:Ty)→t.den→List Value→Prop
 |.unit,_,cs=>cs=[]
 |.bool,b,cs=>cs=[.bool b]
 |.int k,n,cs=>cs=[.int k n]
 |.slice e,xs,cs=>∃ a cap,cs=[.slice a (List.length (α:=e.den) xs) cap]∧List.length (α:=e.den) xs≤cap∧(xs≠[]→∃ ad row,a=some ad∧F ad.block∧rows (Dat w F e) xs row ∧
   ∀ j u,row[j]? = some u→w.cell? (ad.add j)=some u)
 |.prod a b,d,cs=>∃ c1 c2,cs=c1++c2∧Dat w F a d.1 c1∧Dat w F b d.2 c2
 |.arr n e,xs,cs=>List.length (α:=e.den) xs=n∧rows (Dat w F e) xs cs
 |.nul _,_,cs=>cs=[.slice none 0 0]
 |.mapi j e,es,cs=>∃ b ms clock,cs=[.map (some b)]∧F b∧w.heap[b]? = some (.map ms clock)∧Ys (fun d v=>v = .int j d) (fun d v=>Dat w F e d [v]) es ms.toList
def CW(w:World)(F:Nat→Prop)(t:Ty)(d:t.den)(v:Value):Prop:=
 if t.isAgg then ∃ vs,v = .agg vs∧Dat w F t d vs.toList else Dat w F t d [v]
inductive Ix where
 |o (i:Nat)
 |r (i k:Nat)
 deriving DecidableEq
instance:Coe Nat Ix:=⟨.o⟩
def Ix.id:Ix→Nat
 |.o i=>i
 |.r i _=>i
abbrev Mp:=Ix→Option (Nat×Nat)
def Bq(o:Option Ob)(l:Option (Nat×Nat))(v:Value):Prop:=
 match o with
 |some (.arr _ t xs)=>match l with
  |none=>∃ a,v = .slice a 0 0
  |some (b,cap)=>v = .slice (some ⟨b,0,none⟩) (List.length (α:=t.den) xs) cap
 |some (.prs _ _ is)=>match l with
  |none=>∃ a,v = .slice a 0 0
  |some (b,cap)=>v = .slice (some ⟨b,0,none⟩) is.length cap
 |some (.rows (.arr _) _ t xs _ _)=>match l with
  |none=>∃ a,v = .slice a 0 0
  |some (b,cap)=>v = .slice (some ⟨b,0,none⟩) (List.length (α:=List t.den) xs) cap
 |some .dead=>v.oneCell'=true
 |_=>False
def ZQ(o:Option Ob)(l:Option (Nat×Nat))(i ver:Nat)(v:Value):Prop:=
 match o with
 |some (.rows K _ t xs ver' _)=>v.oneCell'=true∧ver≤ver'∧(ver=ver'→(∃ ys:List t.den,xs[i]? = some ys∧Bq (some (.arr 0 t ys)) l v)∨(K.JJ=false∧i=List.length (α:=List t.den) xs∧v = .slice none 0 0))
 |some .dead=>v.oneCell'=true
 |_=>False
def HQ(o:Option Ob)(l:Option (Nat×Nat))(off n:Nat)(v:Value):Prop:=
 match o with
 |some (.arr _ t xs)=>off+n≤List.length (α:=t.den) xs∧match l with
  |none=>∃ a,v = .slice a n 0
  |some (b,cap)=>∃ a,v = .slice a n (cap-off)∧(off<cap→a=some ⟨b,off*t.size,none⟩)
 |some .dead=>v.oneCell'=true
 |_=>False
def GZ(o:Option Ob)(l:Option (Nat×Nat))(off:Nat)(v:Value):Prop:=
 match o with
 |some (.box _)=>∃ b c,l=some (b,c)∧v = .pointer (some ⟨b,off,none⟩)
 |some .dead=>v.oneCell'=true
 |_=>False
def DY(o:Option Ob)(l:Option (Nat×Nat))(i sub:Nat)(v:Value):Prop:=
 match o with
 |some (.arr _ t xs)=>i<List.length (α:=t.den) xs∧∃ b c,l=some (b,c)∧v = .pointer (some ⟨b,i*t.size+sub,none⟩)
 |some (.prs _ _ is)=>i<is.length∧∃ b c,l=some (b,c)∧v = .pointer (some ⟨b,i+sub,none⟩)
 |some (.rows (.arr _) _ t xs _ _)=>i<List.length (α:=List t.den) xs∧∃ b c,l=some (b,c)∧v = .pointer (some ⟨b,i+sub,none⟩)
 |some .dead=>v.oneCell'=true
 |_=>False
def Ld(o:Option Ob)(l:Option (Nat×Nat))(v:Value):Prop:=
 match o with
 |some (.map _ _ _)=>∃ b c,l=some (b,c)∧v = .map (some b)
 |some (.rows (.map _ _) _ _ _ _ _)=>∃ b c,l=some (b,c)∧v = .map (some b)
 |some .dead=>v.oneCell'=true
 |_=>False
def Fp(o:Option Ob)(l:Option (Nat×Nat))(n:Nat)(v:Value):Prop:=
 match o with
 |some (.arr _ t xs)=>List.length (α:=t.den) xs=n∧∃ b,l=some (b,n)∧v = .pointer (some ⟨b,0,none⟩)
 |some .dead=>v.oneCell'=true
 |_=>False
theorem Bq.one{o:Ob}{l:Option (Nat×Nat)}{v:Value}(h:Bq (some o) l v):v.oneCell'=true:=by
 unfold Bq at h;split at h;all_goals try exact h.elim
 all_goals try exact h
 all_goals
  cases l with
  |none=>obtain⟨a,rfl⟩:=h;rfl
  |some p=>obtain⟨b,c⟩:=p;simp only at h;subst h;rfl
theorem HQ.one{o:Ob}{l:Option (Nat×Nat)}{off n:Nat}{v:Value}(h:HQ (some o) l off n v):v.oneCell'=true:=by
 unfold HQ at h;cases o<;>simp only at h<;>first|omega|exact h|skip
 obtain⟨_,h⟩:=h;cases l with
  |none=>obtain⟨a,rfl⟩:=h;rfl
  |some p=>obtain⟨b,c⟩:=p;obtain⟨a,rfl,_⟩:=h;rfl
theorem GZ.one{o:Ob}{l:Option (Nat×Nat)}{off:Nat}{v:Value}(h:GZ (some o) l off v):v.oneCell'=true:=by
 unfold GZ at h;cases o<;>simp only at h<;>first|omega|exact h|skip
 obtain⟨b,c,_,rfl⟩:=h;rfl
theorem DY.one{o:Ob}{l:Option (Nat×Nat)}{i sub:Nat}{v:Value}(h:DY (some o) l i sub v):v.oneCell'=true:=by
 unfold DY at h;split at h;all_goals try exact h.elim
 all_goals try exact h
 all_goals obtain⟨_,b,c,_,rfl⟩:=h;rfl
theorem ZQ.one{o:Ob}{l:Option (Nat×Nat)}{i ver:Nat}{v:Value}(h:ZQ (some o) l i ver v):v.oneCell'=true:=by unfold ZQ at h;grind
theorem Ld.one{o:Ob}{l:Option (Nat×Nat)}{v:Value}(h:Ld (some o) l v):v.oneCell'=true:=by
 unfold Ld at h;split at h;all_goals try exact h.elim
 all_goals try exact h
 all_goals obtain⟨b,c,_,rfl⟩:=h;rfl
theorem Fp.one{o:Ob}{l:Option (Nat×Nat)}{n:Nat}{v:Value}(h:Fp (some o) l n v):v.oneCell'=true:=by
 unfold Fp at h;split at h;all_goals try exact h.elim
 all_goals try exact h
 all_goals obtain⟨_,b,_,rfl⟩:=h;rfl
section
variable (w:World) (F:Nat→Prop) (m:Mp) (H:List Ob)
mutual
def Rep:AV→Value→Prop
 |.Cr,_=>True
 |.data t d,v=>CW w F t d v
 |.nils _,v=>v = .slice none 0 0
 |.agg cs,v=>∃ vs,v = .agg vs∧BD cs vs.toList∧∀ u∈vs.toList,u.oneCell'=true
 |.own id,v=>Bq H[id]? (m id) v
 |.win id off n,v=>HQ H[id]? (m id) off n v
 |.ptr id off,v=>GZ H[id]? (m id) off v
 |.eptr id i sub,v=>DY H[id]? (m id) i sub v
 |.dptr cs,v=>∃ ad us,v = .pointer (some ad)∧(cs≠[]→F ad.block)∧BD cs us∧(∀ u∈us,u.oneCell'=true)∧∀ j u,us[j]? = some u→w.cell? (ad.add j)=some u
 |.clo f caps,v=>∃ cs,v = .func (.func f) #[] cs∧BD caps cs.toList
 |.bnd f fs,v=>∃ cs,v = .func (.func f) cs #[]∧BD fs cs.toList
 |.str xs,v=>∃ s,v = .string s∧bytesOf s=xs
 |.clip t xs,v=>Dat w F (.slice t) xs [v]∧∃ a,v = .slice a (List.length (α:=t.den) xs) (List.length (α:=t.den) xs)
 |.mp id,v=>Ld H[id]? (m id) v
 |.tup vs,v=>∃ us,v = .tuple us∧BD vs us.toList
 |.rowp id i ver,v=>ZQ H[id]? (m (.r id i)) i ver v
 |.glob g,v=>v = .pointer (some ⟨g,0,none⟩)
 |.nilp,v=>v = .pointer none
 |.ifc o,v=>v=Ji o
 |.aptr id n,v=>Fp H[id]? (m id) n v
def BD:List AV→List Value→Prop
 |[],vs=>vs=[]
 |c::cs,vs=>∃ v vs',vs=v::vs'∧Rep c v∧BD cs vs'
end
end
def AWF(w:World)(F:Nat→Prop)(k v:Ty)(e:k.den×v.den)(me:MapEntry):Prop:=CW w F k e.1 me.key∧CW w F v e.2 me.val
def I2(w:World)(F:Nat→Prop)(k v:Ty):List (k.den×v.den)→List MapEntry→Prop
 |[],ms=>ms=[]
 |e::es,ms=>∃ me ms',ms=me::ms'∧AWF w F k v e me∧I2 w F k v es ms'
def GY(ms:Array MapEntry)(clock:Nat):Prop:=clock=ms.size∧∀ (i:Nat) (e:MapEntry),ms[i]? = some e→e.born=i
def Hdr(w:World)(K:RK)(n:Nat)(out:Option Nat)(b cap:Nat):Prop:=
 match K with
 |.arr T=>∃ vs,w.heap[b]? = some (.cells vs T (0,0))∧n≤cap∧cap≤maxLen∧vs.size=cap∧∀ u∈vs.toList,u.oneCell'=true
 |.map j ks=>∃ ms clock,w.heap[b]? = some (.map ms clock)∧GY ms clock∧ms.toList.map (·.key)=ks.map (Value.int j)∧(n=ks.length∨(out=some ks.length∧n=ks.length+1))∧∀ k,out=some k→k<n
def LU(w:World)(K:RK)(b k:Nat)(u:Value):Prop:=
 match K with
 |.arr T=>∃ vs,w.heap[b]? = some (.cells vs T (0,0))∧vs.toList[k]? = some u
 |.map _ _=>∃ ms clock e,w.heap[b]? = some (.map ms clock)∧ms.toList[k]? = some e∧e.val=u
def ObI(w:World)(F:Nat→Prop)(m:Mp)(H:List Ob)(o:Ob)(l:Option (Nat×Nat)):Prop:=
 match o with
 |.free=>True
 |.dead=>True
 |.box cs=>∃ b c vs T,l=some (b,c)∧w.heap[b]? = some (.cells vs T (0,0))∧BD w F m H cs vs.toList∧∀ u∈vs.toList,u.oneCell'=true
 |.arr T t xs=>0<t.size∧match l with
  |none=>xs=[]
  |some (b,cap)=>∃ vs row,w.heap[b]? = some (.cells vs T (0,0))∧List.length (α:=t.den) xs≤cap∧cap≤maxLen∧vs.size=cap*t.size∧rows (Dat w F t) xs row∧vs.toList.take row.length=row
 |.map k v es=>∃ b c ms clock,l=some (b,c)∧w.heap[b]? = some (.map ms clock)∧I2 w F k v es ms.toList∧GY ms clock
 |.prs T tgt is=>match l with
  |none=>is=[]
  |some (b,cap)=>∃ vs us,w.heap[b]? = some (.cells vs T (0,0))∧is.length≤cap∧cap≤maxLen∧vs.size=cap∧BD w F m H (GD tgt is) us∧(∀ u∈us,u.oneCell'=true)∧vs.toList.take us.length=us
 |.rows K _ t xs _ out=>0<t.size∧match l with
  |none=>K.JJ=true∧xs=[]
  |some (b,cap)=>Hdr w K (List.length (α:=List t.den) xs) out b cap
def Cd(H:List Ob)(fz:List Bool)(i:Nat):Prop:=
 match H[i]? with
 |some (.box _)=>True
 |some (.map _ _ _)=>True
 |some (.prs _ _ _)=>True
 |some (.arr _ _ _)=>fz.getD i false=false
 |some (.rows _ _ _ _ _ _)=>fz.getD i false=false
 |_=>False
def owned(H:List Ob)(fz:List Bool):Ix→Prop
 |.o i=>Cd H fz i
 |.r i k=>match H[i]? with
  |some (.rows _ _ t xs _ _)=>k<List.length (α:=List t.den) xs∧fz.getD i false=false
  |_=>False
def there(H:List Ob):Ix→Prop
 |.o i=>∃ o,H[i]? = some o∧o≠.free∧o≠.dead
 |.r i k=>match H[i]? with
  |some (.rows _ _ t xs _ _)=>k<List.length (α:=List t.den) xs
  |_=>False
def Co(w:World)(F:Nat→Prop)(m:Mp)(H:List Ob)(i:Nat):Prop:=
 ∀ T e t xs ver out,H[i]? = some (.rows T e t xs ver out)→∀ (k:Nat) (ys:List t.den),xs[k]? = some ys →
  ObI w F m H (.arr e t ys) (m (.r i k))∧(out≠some k→∃ b cap u,m i=some (b,cap)∧LU w T b k u∧Bq (some (.arr e t ys)) (m (.r i k)) u)
def ALE(w:World)(F:Nat→Prop):Prop:=∀ p∈kU,F p.1∧∀ (j:Nat) (n:Int),p.2.2[j]? = some n→w.cell? ⟨p.1,j,none⟩=some (.int p.2.1 n)
structure HI(w:World)(F:Nat→Prop)(m:Mp)(H:List Ob)(fz:List Bool):Prop where
 obj:∀ (id:Nat) o,H[id]? = some o→ObI w F m H o (m id)
 row:∀ i,Co w F m H i
 rfz:∀ (i:Nat) T e t xs ver out,H[i]? = some (.rows T e t xs ver out)→fz.getD i false=true→∀ x:Ix,x.id=i→there H x→∀ b c,m x=some (b,c)→F b
 sep:∀ i j b c b' c',owned H fz i→owned H fz j→i≠j→m i=some (b,c)→m j=some (b',c')→b≠b'
 off:∀ i b c,owned H fz i→m i=some (b,c)→¬ F b
 froz:∀ (i:Nat) T t xs b c,H[i]? = some (.arr T t xs)→fz.getD i false=true→m i=some (b,c)→F b
 lt:∀ b,F b→b<w.heap.size
 glo:ALE w F
 len:H.length=fz.length
def PQ:Ob→Nat
 |.rows _ _ _ _ ver _=>ver
 |_=>0
def sameShape:Ob→Ob→Prop
 |.box _,.box _=>True
 |.map _ _ _,.map _ _ _=>True
 |.prs _ _ is,.prs _ _ is'=>is.length=is'.length
 |.rows K e t xs ver out,.rows K' e' t' xs' ver' out'=>K.JJ=K'.JJ∧(K.JJ=true→List.length (α:=List t.den) xs=List.length (α:=List t'.den) xs')∧(ver<ver'∨ver=ver'∧(⟨t,xs⟩:(t:Ty)×List (List t.den))=⟨t',xs'⟩)
 |.arr _ t xs,.arr _ t' xs'=>t.size=t'.size∧List.length (α:=t.den) xs=List.length (α:=t'.den) xs'
 |_,_=>False
def C5(H H':List Ob)(m m':Mp):Prop:=
 ∀ (i:Nat) (o:Ob),H[i]? = some o→o≠.free→H'[i]? = some .dead∨(o≠.dead∧∃ o',H'[i]? = some o'∧sameShape o o'∧m' i=m i∧(CA o=false→PQ o'=PQ o→∀ k,m' (.r i k)=m (.r i k)))
structure Ext(w:World)(F:Nat→Prop)(m:Mp)(H:List Ob)(fz:List Bool)(w':World)(F':Nat→Prop)(m':Mp)(H':List Ob)(fz':List Bool):Prop where
 os:w'.os=w.os
 tape:w'.tape=w.tape
 output:w'.output=w.output
 size:w.heap.size≤w'.heap.size
 keep:∀ b,b<w.heap.size→(∀ i c,owned H fz i→m i≠some (b,c))→w'.heap[b]? = w.heap[b]?
 sub:∀ b,F b→F' b
 bnd:∀ b,F' b→F b∨(∃ i c,owned H fz i∧m i=some (b,c))∨w.heap.size≤b
 own:∀ i b c,owned H' fz' i→m' i=some (b,c)→(∃ i c,owned H fz i∧m i=some (b,c))∨w.heap.size≤b
 comp:C5 H H' m m'
theorem B8{α:Type}{R R':α→List Value→Prop}{xs:List α}(h:∀ x∈xs,∀ cs,R x cs→R' x cs):∀ {cs},rows R xs cs→rows R' xs cs:=by
 induction xs with
  |nil=>exact fun h=>h
  |cons x xs ih=>rintro cs ⟨c1,c2,rfl,h1,h2⟩;exact⟨c1,c2,rfl,h x (by simp) _ h1,ih (fun y hy=>h y (by simp[hy])) h2⟩
theorem AAe{α β:Type}{K:α→Value→Prop}{V V':β→Value→Prop}(h:∀ x v,V x v→V' x v):∀ {es:List (α×β)} {ms},Ys K V es ms→Ys K V' es ms:=by
 intro es;induction es with
  |nil=>exact fun h=>h
  |cons e es ih=>rintro ms ⟨me,ms',e1,h1,h2,h3⟩;exact⟨me,ms',e1,h1,h _ _ h2,ih h3⟩
theorem Dat.mono{w w':World}{F F':Nat→Prop}(hc:∀ b,F b→w'.heap[b]? = w.heap[b]?)(hF:∀ b,F b→F' b):
  ∀ (t:Ty) {d:t.den} {cs:List Value},Dat w F t d cs→Dat w' F' t d cs:=by
 have hcell:∀ a:Addr,F a.block→w'.cell? a=w.cell? a:=fun a ha=>by simp only[World.cell?,hc _ ha]
 have hadd:∀ (a:Addr) (n:Nat),(a.add n).block=a.block:=fun a n=>by unfold Addr.add;grind
 intro t;induction t with
  |unit=>exact fun h=>h
  |bool=>exact fun h=>h
  |int k=>exact fun h=>h
  |slice e ih=>rintro d cs ⟨a,cap,h1,h2,h3⟩;refine⟨a,cap,h1,h2,fun hne => ?_⟩;obtain⟨ad,row,e1,e2,e3,e4⟩:=h3 hne;exact⟨ad,row,e1,hF _ e2,B8 (fun x _ cs hx=>ih hx) e3,fun j u hu=>(hcell _ (by grind)).trans (e4 j u hu)⟩
  |prod a b iha ihb=>rintro d cs ⟨c1,c2,h1,h2,h3⟩;exact⟨c1,c2,h1,iha h2,ihb h3⟩
  |arr n e ih=>rintro d cs ⟨h1,h2⟩;exact⟨h1,B8 (fun x _ cs hx=>ih hx) h2⟩
  |nul e=>exact fun h=>h
  |mapi j e ih=>rintro d cs ⟨b,ms,clock,h1,h2,h3,h4⟩;exact⟨b,ms,clock,h1,hF _ h2,(hc _ h2).trans h3,AAe (fun x v hx=>ih hx) h4⟩
theorem CW.mono{w w':World}{F F':Nat→Prop}(hc:∀ b,F b→w'.heap[b]? = w.heap[b]?)(hF:∀ b,F b→F' b)
  {t:Ty} {d:t.den} {v:Value} (h:CW w F t d v):CW w' F' t d v:=by unfold CW at *;split;rename_i hg;simp only[hg,AX9]at h;obtain⟨vs,e,hd⟩:=h;exact⟨vs,e,hd.mono hc hF t⟩;rename_i hg;simp only[hg]at h;exact Dat.mono hc hF t h
theorem Bv{α:Type}{R:α→List Value→Prop}{n:Nat}(h:∀ x cs,R x cs→cs.length=n):∀ {xs:List α} {cs},rows R xs cs→cs.length=xs.length*n:=by
 intro xs;induction xs with
  |nil=>rintro cs rfl;simp
  |cons x xs ih=>rintro cs ⟨c1,c2,rfl,h1,h2⟩;grind
theorem Dat.length{w:World}{F:Nat→Prop}:∀ (t:Ty) {d:t.den} {cs:List Value},Dat w F t d cs→cs.length=t.size:=by
 intro t;induction t with
  |unit=>rintro d cs rfl;rfl
  |bool=>rintro d cs rfl;rfl
  |int k=>rintro d cs rfl;rfl
  |slice e ih=>rintro d cs ⟨a,cap,rfl,_,_⟩;rfl
  |prod a b iha ihb=>rintro d cs ⟨c1,c2,rfl,h2,h3⟩;rw[AXn,iha h2,ihb h3];rfl
  |arr n e ih=>rintro d cs ⟨h1,h2⟩;rw[Bv (fun x cs hx=>ih hx) h2,h1];rfl
  |nul e=>rintro d cs rfl;rfl
  |mapi j e ih=>rintro d cs ⟨b,ms,clock,rfl,_⟩;rfl
theorem Pj{α:Type}{R:α→List Value→Prop}{p:Value→Prop}(h:∀ x cs,R x cs→∀ u∈cs,p u):∀ {xs:List α} {cs},rows R xs cs→∀ u∈cs,p u:=by
 intro xs;induction xs with
  |nil=>rintro cs rfl u hu;cases hu
  |cons x xs ih=>rintro cs ⟨c1,c2,rfl,h1,h2⟩ u hu;grind
theorem Dat.HY{w:World}{F:Nat→Prop}:∀ (t:Ty) {d:t.den} {cs:List Value},Dat w F t d cs→∀ u∈cs,u.oneCell'=true:=by
 intro t;induction t with
  |unit=>rintro d cs rfl u hu;cases hu
  |bool=>rintro d cs rfl u hu;simp at hu;subst hu;rfl
  |int k=>rintro d cs rfl u hu;simp at hu;subst hu;rfl
  |slice e ih=>rintro d cs ⟨a,cap,rfl,_,_⟩ u hu;simp at hu;subst hu;rfl
  |prod a b iha ihb=>rintro d cs ⟨c1,c2,rfl,h2,h3⟩ u hu;grind
  |arr n e ih=>rintro d cs ⟨h1,h2⟩;exact Pj (fun x cs hx=>ih hx) h2
  |nul e=>rintro d cs rfl u hu;simp at hu;subst hu;rfl
  |mapi j e ih=>rintro d cs ⟨b,ms,clock,rfl,_⟩ u hu;simp at hu;subst hu;rfl
theorem Ba{w:World}{F:Nat→Prop}{m:Mp}{H:List Ob}:∀ {cs:List AV} {vs:List Value},BD w F m H cs vs→vs.length=cs.length:=by
 intro cs;induction cs with
  |nil=>intro vs h;unfold BD at h;grind
  |cons c cs ih=>intro vs h;unfold BD at h;grind
theorem C'{w:World}{F:Nat→Prop}{m:Mp}{H:List Ob}:∀ {cs:List AV} {vs:List Value},BD w F m H cs vs→∀ {i:Nat} {c:AV},cs[i]? = some c→∃ v,vs[i]? = some v∧Rep w F m H c v:=by
 intro cs;induction cs with
  |nil=>simp
  |cons c cs ih=>intro vs h i c' hc;unfold BD at h;grind
theorem Dy{w:World}{F:Nat→Prop}{m:Mp}{H:List Ob}:∀ {cs:List AV} {vs:List Value},vs.length=cs.length→(∀ (i:Nat) (c:AV) (v:Value),cs[i]? = some c→vs[i]? = some v→Rep w F m H c v)→BD w F m H cs vs:=by
 intro cs;induction cs with
  |nil=>intro vs h _;unfold BD;grind
  |cons c cs ih=>
   intro vs hl h;unfold BD;match vs,hl with
   |v::vs',hl=>exact⟨v,vs',rfl,h 0 c v rfl rfl,ih (by grind) fun i c v hc hv=>h (i+1) c v (by grind) (by grind)⟩
theorem G8{w:World}{F:Nat→Prop}{m:Mp}{H:List Ob}{cs cs':List AV}{vs vs':List Value}(h:BD w F m H cs vs)(h':BD w F m H cs' vs'):BD w F m H (cs++cs') (vs++vs'):=by
 induction cs generalizing vs with
  |nil=>unfold BD at h;grind
  |cons c cs ih=>unfold BD at h;obtain⟨v,vs1,rfl,hv,h⟩:=h;simp only[AX3];unfold BD;grind
theorem Ni{w:World}{F:Nat→Prop}{m:Mp}{H:List Ob}{cs:List AV}{vs:List Value}(h:BD w F m H cs vs)(n:Nat):BD w F m H (cs.take n) (vs.take n):=by refine Dy (by simp[Ba h]) fun i c v hc hv => ?_;rw[AZk]at hc hv;split at hc;rename_i hi;simp only[hi,AX9]at hv;obtain⟨v',hv',hr⟩:=C' h hc;grind;grind
theorem FL{w:World}{F:Nat→Prop}{m:Mp}{H:List Ob}{cs:List AV}{vs:List Value}(h:BD w F m H cs vs)(n:Nat):BD w F m H (cs.drop n) (vs.drop n):=by refine Dy (by simp[Ba h]) fun i c v hc hv => ?_;rw[AZ8]at hc hv;obtain⟨v',hv',hr⟩:=C' h hc;grind
section
variable {w w':World} {F F':Nat→Prop} {m m':Mp} {H H':List Ob}
theorem GW(hcomp:C5 H H' m m')(P:Option Ob→Option (Nat×Nat)→Prop)(hdead:∀ o l l',P (some o) l→P (some .dead) l')(hnone:∀ l,¬ P none l)(hfree:∀ l,¬ P (some .free) l)
  (hsame:∀ o o' l,sameShape o o'→P (some o) l→P (some o') l) (i:Nat) (h:P H[i]? (m i)):P H'[i]? (m' i):=by
 cases ho:H[i]? with
  |none=>grind
  |some o=>
   rw[ho]at h;by_cases hf:o = .free;grind
   ·rcases hcomp i o ho hf with h1|⟨_,o',h1,h2,h3,_⟩
    all_goals grind
mutual
theorem Rep.mono(hc:∀ b,F b→w'.heap[b]? = w.heap[b]?)(hF:∀ b,F b→F' b)(hcomp:C5 H H' m m'):∀ (a:AV) {v:Value},Rep w F m H a v→Rep w' F' m' H' a v
 |.Cr,_,_=>by unfold Rep;trivial
 |.data t d,v,h=>by unfold Rep at *;exact h.mono hc hF
 |.nils _,v,h=>by unfold Rep at *;exact h
 |.agg cs,v,h=>by unfold Rep at *;obtain⟨vs,e,h,h1⟩:=h;exact⟨vs,e,BD.mono hc hF hcomp cs h,h1⟩
 |.own id,v,h=>by
  unfold Rep at *;refine GW hcomp (fun o l=>Bq o l v) (fun o l l'=>Bq.one) (fun l h=>h) (fun l h=>h) ?_ id h;intro o o' l hs h;cases o<;>cases o'<;>simp only[sameShape]at hs<;>try exact hs.elim
  exact h.elim;obtain⟨hz,hl⟩:=hs;unfold Bq at *;grind;exact h.elim;unfold Bq at *;grind
  ·rename_i K _ _ _ _ _ K' _ _ _ _ _;cases K<;>cases K'<;>first|(cases hs.1;done)|exact h.elim|skip
   unfold Bq at *;simp only at *;rw[← hs.2.1 rfl];exact h
 |.win id off n,v,h=>by
  unfold Rep at *;refine GW hcomp (fun o l=>HQ o l off n v) (fun o l l'=>HQ.one) (fun l h=>h) (fun l h=>h) ?_ id h;intro o o' l hs h;cases o<;>cases o'<;>simp only[sameShape]at hs<;>try exact hs.elim
  exact h.elim;obtain⟨hz,hl⟩:=hs;unfold HQ at *;grind;exact h.elim;exact h.elim;exact h.elim
 |.ptr id off,v,h=>by
  unfold Rep at *;refine GW hcomp (fun o l=>GZ o l off v) (fun o l l'=>GZ.one) (fun l h=>h) (fun l h=>h) ?_ id h;intro o o' l hs h;cases o<;>cases o'<;>simp only[sameShape]at hs<;>try exact hs.elim
  exact h;exact h.elim;exact h.elim;exact h.elim;exact h.elim
 |.eptr id i sub,v,h=>by
  unfold Rep at *;refine GW hcomp (fun o l=>DY o l i sub v) (fun o l l'=>DY.one) (fun l h=>h) (fun l h=>h) ?_ id h;intro o o' l hs h;cases o<;>cases o'<;>simp only[sameShape]at hs<;>try exact hs.elim
  exact h.elim;obtain⟨hz,hl⟩:=hs;unfold DY at *;grind;exact h.elim;unfold DY at *;grind
  ·rename_i K _ _ _ _ _ K' _ _ _ _ _;cases K<;>cases K'<;>first|(cases hs.1;done)|exact h.elim|skip
   unfold DY at *;simp only at *;rw[← hs.2.1 rfl];exact h
 |.dptr cs,v,h=>by
  unfold Rep at *;obtain⟨ad,us,e,h1,h2,h4,h3⟩:=h;refine⟨ad,us,e,fun hne=>hF _ (h1 hne),BD.mono hc hF hcomp cs h2,h4,fun j u hu => ?_⟩;have hadd:(ad.add j).block=ad.block:=by unfold Addr.add;grind
  have hne:cs≠[]:=by rintro rfl;unfold BD at h2;grind
  have h3:=h3 j u hu;simp only[World.cell?]at h3 ⊢;grind
 |.clo f caps,v,h=>by unfold Rep at *;obtain⟨cs,e,h⟩:=h;exact⟨cs,e,BD.mono hc hF hcomp caps h⟩
 |.bnd f caps,v,h=>by unfold Rep at *;obtain⟨cs,e,h⟩:=h;exact⟨cs,e,BD.mono hc hF hcomp caps h⟩
 |.str _,v,h=>by unfold Rep at *;exact h
 |.clip t xs,v,h=>by unfold Rep at *;exact⟨Dat.mono hc hF (.slice t) h.1,h.2⟩
 |.mp id,v,h=>by
  unfold Rep at *;refine GW hcomp (fun o l=>Ld o l v) (fun o l l'=>Ld.one) (fun l h=>h) (fun l h=>h) ?_ id h;intro o o' l hs h;cases o<;>cases o'<;>simp only[sameShape]at hs<;>try exact hs.elim
  exact h.elim;exact h.elim;exact h;exact h.elim;·rename_i K _ _ _ _ _ K' _ _ _ _ _;cases K<;>cases K'<;>first|(cases hs.1;done)|exact h.elim|exact h
 |.glob g,v,h=>by unfold Rep at *;exact h
 |.nilp,v,h=>by unfold Rep at *;exact h
 |.ifc o,v,h=>by unfold Rep at *;exact h
 |.aptr id n,v,h=>by
  unfold Rep at *;refine GW hcomp (fun o l=>Fp o l n v) (fun o l l'=>Fp.one) (fun l h=>h) (fun l h=>h) ?_ id h;intro o o' l hs h;cases o<;>cases o'<;>simp only[sameShape]at hs<;>try exact hs.elim
  exact h.elim;obtain⟨hz,hl⟩:=hs;unfold Fp at *;grind;exact h.elim;exact h.elim;exact h.elim
 |.tup vs,v,h=>by unfold Rep at *;obtain⟨us,e,h⟩:=h;exact⟨us,e,BD.mono hc hF hcomp vs h⟩
 |.rowp id i ver,v,h=>by
  unfold Rep at *;cases ho:H[id]? with
   |none=>rw[ho]at h;exact h.elim
   |some o=>
    rw[ho]at h;have hone:=ZQ.one h;by_cases hf:o = .free;subst hf;exact h.elim;rcases hcomp id o ho hf with h1|⟨_,o',h1,h2,h3,h4⟩
    rw[h1];exact hone;rw[h1];cases o<;>(try exact h.elim)<;>cases o'<;>simp only[sameShape]at h2;obtain⟨_,h6,h7⟩:=h;obtain⟨ha,h8,h9⟩:=h2;refine⟨hone,?_,fun e => ?_⟩;omega;rcases h9 with h9|⟨h9,h10⟩
    omega;subst h9;cases h10;rw[h4 rfl rfl i,← ha];grind
theorem BD.mono(hc:∀ b,F b→w'.heap[b]? = w.heap[b]?)(hF:∀ b,F b→F' b)(hcomp:C5 H H' m m'):∀ (cs:List AV) {vs:List Value},BD w F m H cs vs→BD w' F' m' H' cs vs
 |[],vs,h=>by unfold BD at *;exact h
 |c::cs,vs,h=>by unfold BD at *;obtain⟨v,vs',e,h1,h2⟩:=h;exact⟨v,vs',e,Rep.mono hc hF hcomp c h1,BD.mono hc hF hcomp cs h2⟩
end
theorem C5.refl(H:List Ob)(m:Mp):C5 H H m m:=by intro i o ho _;by_cases hd:o = .dead;grind;refine .inr ⟨hd,o,ho,?_,rfl,fun _ _ _=>rfl⟩;cases o<;>simp_all [sameShape]
theorem sameShape.trans{a b c:Ob}(h:sameShape a b)(h':sameShape b c):sameShape a c:=by cases a<;>cases b<;>simp only[sameShape]at h<;>(try exact h.elim)<;>cases c<;>simp only[sameShape]at h'<;>(try exact h'.elim)<;>simp only[sameShape];all_goals grind
theorem sameShape.ver{a b:Ob}(h:sameShape a b):PQ a≤PQ b∧CA a=CA b:=by
 cases a<;>cases b<;>simp only[sameShape]at h<;>(try exact h.elim)<;>(try exact⟨AXl _,rfl⟩)
 rcases h.2.2 with h1|⟨h1,_⟩
 exact⟨AYw h1,rfl⟩;exact⟨AZb h1,rfl⟩
theorem C5.trans{a b c:List Ob}{m m' m'':Mp}(h:C5 a b m m')(h':C5 b c m' m''):C5 a c m m'':=by
 intro i o ho hf;rcases h i o ho hf with h1|⟨hd,o',h1,h2,h3,hp⟩
 ·rcases h' i _ h1 (by simp)with h4|⟨h5,_⟩
  all_goals grind
 have hf':o'≠.free:=by rintro rfl;cases o<;>simp[sameShape]at h2
 rcases h' i o' h1 hf' with h4|⟨_,o'',h4,h5,h6,hq⟩
 grind;refine .inr ⟨hd,o'',h4,h2.trans h5,h6.trans h3,fun a b k => ?_⟩;have h8:=h2.ver;have h9:=h5.ver;grind
theorem Ext.refl(w:World)(F:Nat→Prop)(m:Mp)(H:List Ob)(fz:List Bool):Ext w F m H fz w F m H fz:=
 ⟨rfl,rfl,rfl,AXl _,fun _ _ _=>rfl,fun _ h=>h,fun _ h=>.inl h,fun i b c h1 h2=>.inl ⟨i,c,h1,h2⟩,C5.refl H m⟩
theorem Ext.trans{w w1 w2:World}{F F1 F2:Nat→Prop}{m m1 m2:Mp}{H H1 H2:List Ob}{fz fz1 fz2:List Bool}
  (h:Ext w F m H fz w1 F1 m1 H1 fz1) (k:Ext w1 F1 m1 H1 fz1 w2 F2 m2 H2 fz2):Ext w F m H fz w2 F2 m2 H2 fz2 where
 os:=k.os.trans h.os
 tape:=k.tape.trans h.tape
 output:=k.output.trans h.output
 size:=AYx h.size k.size
 keep b hb hn:=by rw[k.keep b (AYl hb h.size) ?_,h.keep b hb hn];intro i c ho he;rcases h.own i b c ho he with⟨i',c',h1,h2⟩|h1;all_goals grind
 sub b hb:=k.sub b (h.sub b hb)
 bnd b hb:=by
  rcases k.bnd b hb with h1|⟨i,c,h1,h2⟩|h1;exact h.bnd b h1;·rcases h.own i b c h1 h2 with h3|h3;all_goals grind
  exact .inr (.inr (AYx h.size h1))
 own i b c h1 h2:=by rcases k.own i b c h1 h2 with⟨i',c',h3,h4⟩|h3;exact h.own i' b c' h3 h4;exact .inr (AYx h.size h3)
 comp:=h.comp.trans k.comp
theorem Ext.frozen{fz fz':List Bool}(hi:HI w F m H fz)(h:Ext w F m H fz w' F' m' H' fz'){b:Nat}(hb:F b):w'.heap[b]? = w.heap[b]? :=
 h.keep b (hi.lt b hb) fun i c ho he=>hi.off i b c ho he hb
theorem Ext.rep{fz fz':List Bool}(hi:HI w F m H fz)(h:Ext w F m H fz w' F' m' H' fz'){a:AV}{v:Value}(hr:Rep w F m H a v):Rep w' F' m' H' a v:=
 Rep.mono (fun b hb=>h.frozen hi hb) h.sub h.comp a hr
theorem Ext.AXS{fz fz':List Bool}(hi:HI w F m H fz)(h:Ext w F m H fz w' F' m' H' fz'){a:List AV}{v:List Value}(hr:BD w F m H a v):BD w' F' m' H' a v:=
 BD.mono (fun b hb=>h.frozen hi hb) h.sub h.comp a hr
theorem Ext.dat{fz fz':List Bool}(hi:HI w F m H fz)(h:Ext w F m H fz w' F' m' H' fz'){t:Ty}{d:t.den}{v:List Value}(hr:Dat w F t d v):Dat w' F' t d v:=
 hr.mono (fun b hb=>h.frozen hi hb) h.sub t
theorem I2.mono{k v:Ty}(hc:∀ b,F b→w'.heap[b]? = w.heap[b]?)(hF:∀ b,F b→F' b):
  ∀ {es:List (k.den×v.den)} {ms:List MapEntry},I2 w F k v es ms→I2 w' F' k v es ms:=by
 intro es;induction es with
  |nil=>exact fun h=>h
  |cons e es ih=>rintro ms ⟨me,ms',e1,⟨h1,h2⟩,h3⟩;exact⟨me,ms',e1,⟨h1.mono hc hF,h2.mono hc hF⟩,ih h3⟩
end
end Go.Pev
end
section
namespace Go.Pev
open Go.RowKit
theorem CG{w:World}{b:Nat}{o:Obj}(h:w.heap[b]? = some o):b<w.heap.size:=by grind
theorem Hdr.mono{w w':World}{K:RK}{n:Nat}{out:Option Nat}{b cap:Nat}(hb:b<w.heap.size→w'.heap[b]? = w.heap[b]?)(h:Hdr w K n out b cap):Hdr w' K n out b cap:=by
 cases K with
  |arr T=>obtain⟨vs,e1,e2⟩:=h;exact⟨vs,(hb (CG e1)).trans e1,e2⟩
  |map j ks=>obtain⟨ms,clock,e1,e2⟩:=h;exact⟨ms,clock,(hb (CG e1)).trans e1,e2⟩
theorem LU.mono{w w':World}{K:RK}{b k:Nat}{u:Value}(hb:b<w.heap.size→w'.heap[b]? = w.heap[b]?)(h:LU w K b k u):LU w' K b k u:=by
 cases K with
  |arr T=>obtain⟨vs,e1,e2⟩:=h;exact⟨vs,(hb (CG e1)).trans e1,e2⟩
  |map j ks=>obtain⟨ms,clock,e,e1,e2⟩:=h;exact⟨ms,clock,e,(hb (CG e1)).trans e1,e2⟩
theorem Hdr.lt{w:World}{K:RK}{n:Nat}{out:Option Nat}{b cap:Nat}(h:Hdr w K n out b cap):b<w.heap.size:=by
 cases K with
  |arr T=>obtain⟨vs,e1,e2⟩:=h;grind
  |map j ks=>obtain⟨ms,clock,e1,e2⟩:=h;grind
theorem ALE.mono{w w':World}{F F':Nat→Prop}(hc:∀ b,F b→w'.heap[b]? = w.heap[b]?)(hF:∀ b,F b→F' b)(h:ALE w F):ALE w' F':=fun p hp=>by obtain⟨h1,h2⟩:=h p hp;exact⟨hF _ h1,fun j n hn=>by have:=h2 j n hn;simp only[World.cell?]at this ⊢;grind⟩
theorem ObI.mono{w w':World}{F F':Nat→Prop}{m m':Mp}{H H':List Ob}{o:Ob}{l:Option (Nat×Nat)}
  (hc:∀ b,F b→w'.heap[b]? = w.heap[b]?) (hF:∀ b,F b→F' b) (hcomp:C5 H H' m m')
  (hb:o≠.free→o≠.dead→∀ b c,l=some (b,c)→b<w.heap.size→w'.heap[b]? = w.heap[b]?) (h:ObI w F m H o l):ObI w' F' m' H' o l:=by
 cases o with
  |free=>trivial
  |dead=>trivial
  |box cs=>obtain⟨b,c,vs,T,e1,e2,e3,e4⟩:=h;exact⟨b,c,vs,T,e1,(hb (by simp) (by simp) b c e1 (CG e2)).trans e2,BD.mono hc hF hcomp cs e3,e4⟩
  |arr T t xs=>
   obtain⟨h0,h⟩:=h;refine⟨h0,?_⟩;cases l with
    |none=>exact h
    |some p=>obtain⟨b,cap⟩:=p;obtain⟨vs,row,e1,e2,e3,e4,e5,e6⟩:=h;exact⟨vs,row,(hb (by simp) (by simp) b cap rfl (CG e1)).trans e1,e2,e3,e4,B8 (fun x _ cs hx=>hx.mono hc hF t) e5,e6⟩
  |map k v es=>obtain⟨b,c,ms,clock,e1,e2,e3,e4⟩:=h;exact⟨b,c,ms,clock,e1,(hb (by simp) (by simp) b c e1 (CG e2)).trans e2,I2.mono hc hF e3,e4⟩
  |prs T tgt is=>
   cases l with
    |none=>exact h
    |some p=>obtain⟨b,cap⟩:=p;obtain⟨vs,us,e1,e2,e3,e4,e5,e6,e7⟩:=h;exact⟨vs,us,(hb (by simp) (by simp) b cap rfl (CG e1)).trans e1,e2,e3,e4,BD.mono hc hF hcomp _ e5,e6,e7⟩
  |rows T e t xs ver out=>
   obtain⟨h0,h⟩:=h;refine⟨h0,?_⟩;cases l with
    |none=>exact h
    |some p=>obtain⟨b,cap⟩:=p;exact Hdr.mono (fun hlt=>hb (by simp) (by simp) b cap rfl hlt) h
theorem DJ{H H':List Ob}{fz:List Bool}{i:Ix}(h:H'[i.id]? = H[i.id]?):owned H' fz i↔owned H fz i:=by
 cases i with
  |o i=>simp only[owned,Cd];rw[show H'[i]? = H[i]? from h]
  |r i k=>simp only[owned];rw[show H'[i]? = H[i]? from h]
theorem FE{H:List Ob}{fz:List Bool}{i k:Nat}{o:Ob}(h:H[i]? = some o)(p:CA o=true):¬ owned H fz (.r i k):=by simp only[owned];rw[h];cases o<;>first|exact id|cases p
theorem DH{H H':List Ob}{x:Ix}(h:H'[x.id]? = H[x.id]?):there H' x↔there H x:=by
 cases x with
  |o i=>simp only[there];rw[show H'[i]? = H[i]? from h]
  |r i k=>simp only[there];rw[show H'[i]? = H[i]? from h]
theorem oR{H:List Ob}{i k:Nat}{o:Ob}(h:H[i]? = some o)(p:CA o=true):¬ there H (.r i k):=by simp only[there];rw[h];cases o<;>first|exact id|cases p
theorem Co.plain{w:World}{F:Nat→Prop}{m:Mp}{H:List Ob}{i:Nat}{o:Ob}(h:H[i]? = some o)(p:CA o=true):Co w F m H i:=by intro T e t xs ver out h1;rw[h]at h1;cases h1;cases p
theorem Co.mono{w w':World}{F F':Nat→Prop}{m m':Mp}{H H':List Ob}{i:Nat}
  (hc:∀ b,F b→w'.heap[b]? = w.heap[b]?) (hF:∀ b,F b→F' b) (hcomp:C5 H H' m m') (hH:H'[i]? = H[i]?) (hm:∀ x:Ix,x.id=i→m' x=m x)
  (hb:∀ x:Ix,x.id=i→there H x→∀ b c,m x=some (b,c)→b<w.heap.size→w'.heap[b]? = w.heap[b]?) (h:Co w F m H i):Co w' F' m' H' i:=by
 intro T e t xs ver out h1 k ys hk;rw[hH]at h1;obtain⟨h2,h3⟩:=h T e t xs ver out h1 k ys hk;have hlt:k<List.length (α:=List t.den) xs:=by grind
 rw[hm (.r i k) rfl];refine⟨ObI.mono hc hF hcomp (fun _ _ b c hl hlt'=>hb (.r i k) rfl (by simp only[there];grind) b c hl hlt') h2,fun ho => ?_⟩;obtain⟨b,cap,u,e1,e2,e3⟩:=h3 ho;exact⟨b,cap,u,(hm (.o i) rfl).trans e1,e2.mono (hb (.o i) rfl ⟨_,h1,by simp,by simp⟩ b cap e1),e3⟩
theorem HI.neI{w:World}{F:Nat→Prop}{m:Mp}{H:List Ob}{fz:List Bool}(hi:HI w F m H fz){i:Nat}{j:Ix}{b c b' c':Nat}(ho:owned H fz j)
  (hj:m j=some (b',c')) {o:Ob} (hio:H[i]? = some o) (hal:o≠.free) (hal':o≠.dead) (hi':m i=some (b,c)) (hne:.o i≠j):b≠b':=by
 by_cases hoi:owned H fz i;exact hi.sep i j b c b' c' hoi ho hne hi' hj;cases o with
  |free=>grind
  |dead=>grind
  |box cs=>exact absurd (by simp[owned,Cd,hio]) hoi
  |map k v es=>exact absurd (by simp[owned,Cd,hio]) hoi
  |prs T tgt is=>exact absurd (by simp[owned,Cd,hio]) hoi
  |rows T e t xs ver out=>
   have hf:fz.getD i false=true:=by
    cases hx:fz.getD i false with
     |true=>rfl
     |false=>exact absurd (by simp only[owned,Cd,hio];exact hx) hoi
   have h1:=hi.rfz i T e t xs ver out hio hf i rfl ⟨_,hio,by simp,by simp⟩ b c hi';rintro rfl;exact hi.off j b c' ho hj h1
  |arr T t xs=>
   have hf:fz.getD i false=true:=by
    cases hx:fz.getD i false with
     |true=>rfl
     |false=>exact absurd (by simp only[owned,Cd,hio];exact hx) hoi
   have h1:=hi.froz i T t xs b c hio hf hi';rintro rfl;exact hi.off j b c' ho hj h1
theorem AS7{i j:Nat}(h:i≠j):Ix.o i≠Ix.o j:=fun e=>h (Ix.o.inj e)
theorem HI.ne{w:World}{F:Nat→Prop}{m:Mp}{H:List Ob}{fz:List Bool}(hi:HI w F m H fz){i j:Nat}{b c b' c':Nat}(ho:owned H fz j)
  (hj:m j=some (b',c')) {o:Ob} (hio:H[i]? = some o) (hal:o≠.free) (hal':o≠.dead) (hi':m i=some (b,c)) (hne:i≠j):b≠b':=hi.neI ho hj hio hal hal' hi' (AS7 hne)
theorem Dq{H:List Ob}{fz:List Bool}{i:Ix}(h:owned H fz i):∃ o,H[i.id]? = some o∧o≠.free∧o≠.dead:=by
 cases i with
  |o i=>simp only[owned,Cd]at h;split at h;rename_i h1;exact⟨_,h1,by simp,by simp⟩;rename_i h1;exact⟨_,h1,by simp,by simp⟩;rename_i h1;exact⟨_,h1,by simp,by simp⟩;rename_i h1;exact⟨_,h1,by simp,by simp⟩;rename_i h1;exact⟨_,h1,by simp,by simp⟩;grind
  |r i k=>simp only[owned]at h;split at h;rename_i h1;exact⟨_,h1,by simp,by simp⟩;grind
theorem owned.there{H:List Ob}{fz:List Bool}{x:Ix}(h:owned H fz x):there H x:=by
 cases x with
  |o i=>exact Dq h
  |r i k=>simp only[owned,Pev.there]at *;grind
theorem HI.neX{w:World}{F:Nat→Prop}{m:Mp}{H:List Ob}{fz:List Bool}(hi:HI w F m H fz){x j:Ix}{b c b' c':Nat}(ho:owned H fz j)
  (hj:m j=some (b',c')) (ht:there H x) (hx:m x=some (b,c)) (hne:x≠j):b≠b':=by
 cases x with
  |o i=>obtain⟨o,h1,h2,h3⟩:=ht;exact hi.neI ho hj h1 h2 h3 hx hne
  |r i k=>
   by_cases hox:owned H fz (.r i k);exact hi.sep _ _ b c b' c' hox ho hne hx hj;have ht':=ht;simp only[there,owned]at ht hox;split at ht;rename_i T e t xs ver out h1;have hf:fz.getD i false=true:=by grind
   have h2:=hi.rfz i T e t xs ver out h1 hf (.r i k) rfl ht' b c hx;rintro rfl;exact hi.off j b c' ho hj h2;grind
theorem FG{H:List Ob}{fz:List Bool}{i:Nat}(h:owned H fz i):∃ o,H[i]? = some o∧o≠.free∧o≠.dead:=Dq h
theorem ObI.lt{w:World}{F:Nat→Prop}{m:Mp}{H:List Ob}{o:Ob}{b c:Nat}(h:ObI w F m H o (some (b,c)))(h1:o≠.free)(h2:o≠.dead):b<w.heap.size:=by
 cases o with
  |free=>grind
  |dead=>grind
  |box cs=>obtain⟨b,c,vs,T,e1,e2,_⟩:=h;grind
  |map k v es=>obtain⟨b,c,vs,T,e1,e2,_⟩:=h;grind
  |arr T t xs=>obtain⟨_,vs,row,e1,_⟩:=h;grind
  |prs T tgt is=>obtain⟨vs,us,e1,_⟩:=h;grind
  |rows T e t xs ver out=>obtain⟨_,h⟩:=h;exact Hdr.lt h
theorem HI.rP{w:World}{F:Nat→Prop}{m:Mp}{H:List Ob}{fz:List Bool}(hi:HI w F m H fz){i:Ix}{b c:Nat}(h:there H i)(hm:m i=some (b,c)):b<w.heap.size:=by
 cases i with
  |o i=>obtain⟨o,ho,h1,h2⟩:=h;have:=hi.obj i o ho;rw[hm]at this;exact this.lt h1 h2
  |r i k=>
   simp only[there]at h;split at h;rename_i T e t xs ver out h3;obtain⟨ys,hys⟩:∃ ys:List t.den,xs[k]? = some ys:=⟨_,AXj h⟩
   have:=((hi.row i) T e t xs ver out h3 k ys hys).1;rw[hm]at this;exact this.lt (by simp) (by simp);grind
theorem HI.IT{w:World}{F:Nat→Prop}{m:Mp}{H:List Ob}{fz:List Bool}(hi:HI w F m H fz){i:Ix}{b c:Nat}(h:owned H fz i)(hm:m i=some (b,c)):b<w.heap.size:=hi.rP h.there hm
def BQ(w:World)(F:Nat→Prop)(m:Mp)(H:List Ob)(fz:List Bool)(w':World)(F':Nat→Prop)(m':Mp)(H':List Ob)(fz':List Bool):Prop:=
 Ext w F m H fz w' F' m' H' fz'∧HI w' F' m' H' fz'
theorem BQ.trans{w w1 w2:World}{F F1 F2:Nat→Prop}{m m1 m2:Mp}{H H1 H2:List Ob}{fz fz1 fz2:List Bool}
  (h:BQ w F m H fz w1 F1 m1 H1 fz1) (k:BQ w1 F1 m1 H1 fz1 w2 F2 m2 H2 fz2):BQ w F m H fz w2 F2 m2 H2 fz2:=⟨h.1.trans k.1,k.2⟩
section
variable {w w':World} {F:Nat→Prop} {m:Mp} {H:List Ob} {fz:List Bool}
theorem BQ.refl(hi:HI w F m H fz):BQ w F m H fz w F m H fz:=⟨Ext.refl ..,hi⟩
theorem BQ.grow(hi:HI w F m H fz)(h1:w'.os=w.os)(h2:w'.tape=w.tape)(h3:w'.output=w.output)(hsz:w.heap.size≤w'.heap.size)(hb:∀ b,b<w.heap.size→w'.heap[b]? = w.heap[b]?):
  BQ w F m H fz w' F m H fz:=by refine⟨⟨h1,h2,h3,hsz,fun b h _=>hb b h,fun _ h=>h,fun _ h=>.inl h,fun i b c h1 h2=>.inl ⟨i,c,h1,h2⟩,C5.refl H m⟩,?_,?_,hi.rfz,hi.sep,hi.off,hi.froz,fun b h=>AYl (hi.lt b h) hsz,hi.glo.mono (fun b hF=>hb b (hi.lt b hF)) (fun _ h=>h),hi.len⟩;exact fun id o ho=>ObI.mono (fun b hF=>hb b (hi.lt b hF)) (fun _ h=>h) (C5.refl H m) (fun _ _ b c _ hlt=>hb b hlt) (hi.obj id o ho);exact fun i=>Co.mono (fun b hF=>hb b (hi.lt b hF)) (fun _ h=>h) (C5.refl H m) rfl (fun _ _=>rfl) (fun _ _ _ b c _ hlt=>hb b hlt) (hi.row i)
theorem BQ.drew(hi:HI w F m H fz):BQ w F m H fz w.drew F m H fz:=BQ.grow hi rfl rfl rfl (AXl _) fun _ _=>rfl
def upd(m:Mp)(i:Nat)(l:Option (Nat×Nat)):Mp:=fun j=>if j = .o i then l else m j
theorem BX(m:Mp)(i:Nat)(l:Option (Nat×Nat)):upd m i l i=l:=by simp[upd]
theorem E0{m:Mp}{i:Nat}{j:Ix}{l:Option (Nat×Nat)}(h:j≠.o i):upd m i l j=m j:=by simp[upd,h]
theorem Fx{m:Mp}{i j:Nat}{l:Option (Nat×Nat)}(h:j≠i):upd m i l j=m j:=E0 (AS7 h)
def Nm(m:Mp)(i:Nat)(l:Option (Nat×Nat))(f:Nat→Option (Nat×Nat)):Mp
 |.o j=>if j=i then l else m (.o j)
 |.r j k=>if j=i then f k else m (.r j k)
theorem Ke{m:Mp}{i:Nat}{l:Option (Nat×Nat)}{f:Nat→Option (Nat×Nat)}:Nm m i l f (.o i)=l:=by simp[Nm]
theorem iN{m:Mp}{i k:Nat}{l:Option (Nat×Nat)}{f:Nat→Option (Nat×Nat)}:Nm m i l f (.r i k)=f k:=by simp[Nm]
theorem HU{m:Mp}{i:Nat}{l:Option (Nat×Nat)}{f:Nat→Option (Nat×Nat)}{x:Ix}(h:x.id≠i):Nm m i l f x=m x:=by
 cases x with
  |o j=>have h:j≠i:=h;simp[Nm,h]
  |r j k=>have h:j≠i:=h;simp[Nm,h]
theorem Wa{m:Mp}{i j:Nat}{l:Option (Nat×Nat)}(h:j≠i)(x:Ix)(hx:x.id=j):upd m i l x=m x:=E0 (by rintro rfl;exact h hx.symm)
theorem Bi{H:List Ob}{i j:Nat}{o:Ob}(h:j≠i):(H.set i o)[j]? = H[j]? := by grind
theorem B9{slot:Nat}(h:Bc H fz slot=true):H[slot]? = some .free∧fz.getD slot false=false:=by unfold Bc at h;grind
theorem BU{H:List Ob}{i:Nat}{o:Ob}(h:H[i]? = some o):i<H.length:=by grind
theorem Bj{H:List Ob}{i:Nat}{o:Ob}(h:i<H.length):(H.set i o)[i]? = some o:=by simp[h]
def alive:Ob→Prop
 |.free=>False
 |.dead=>False
 |_=>True
theorem BQ.new(hi:HI w F m H fz){slot:Nat}(hs:Bc H fz slot=true){ob:Ob}(hal:alive ob)(l:Option (Nat×Nat))
  (h1:w'.os=w.os) (h2:w'.tape=w.tape) (h3:w'.output=w.output) (hsz:w.heap.size≤w'.heap.size) (hb:∀ b,b<w.heap.size→w'.heap[b]? = w.heap[b]?)
  (hl:∀ b c,l=some (b,c)→w.heap.size≤b)
  (ho:(∀ {a:AV} {v:Value},Rep w F m H a v→Rep w' F (upd m slot l) (H.set slot ob) a v)→ObI w' F (upd m slot l) (H.set slot ob) ob l) (hpl:CA ob=true:=by rfl) :
  BQ w F m H fz w' F (upd m slot l) (H.set slot ob) fz:=by
 obtain⟨hs1,hs2⟩:=B9 hs;have hlt:=BU hs1;have hcell:∀ b,F b→w'.heap[b]? = w.heap[b]? := fun b hF=>hb b (hi.lt b hF);have hcomp:C5 H (H.set slot ob) m (upd m slot l):=by
  intro i o hio hf;have hne:i≠slot:=by grind
  rcases C5.refl H m i o hio hf with h|⟨hd,o',h4,h5,_⟩
  grind;exact .inr ⟨hd,o',by grind,h5,Fx hne,fun _ _ k=>E0 (by simp)⟩
 have hown:∀ i:Ix,i≠.o slot→(owned (H.set slot ob) fz i↔owned H fz i):=fun i hne=>by
  by_cases hid:i.id=slot;cases i with
   |o i=>exact absurd (AYh Ix.o hid) hne
   |r i k=>have hid:i=slot:=hid;subst hid;exact⟨fun h=>absurd h (FE (Bj hlt) hpl),fun h=>absurd h (FE hs1 rfl)⟩
  exact DJ (Bi hid)
 refine⟨⟨h1,h2,h3,hsz,fun b h _=>hb b h,fun _ h=>h,fun _ h=>.inl h,?_,hcomp⟩,⟨?_,?_,?_,?_,?_,?_,fun b h=>AYl (hi.lt b h) hsz,hi.glo.mono hcell (fun _ h=>h),by simpa using hi.len⟩⟩;intro i b c ho' hm;by_cases hne:i = .o slot;subst hne;rw[BX]at hm;grind;rw[E0 hne]at hm;grind;intro id o hio;by_cases hne:id=slot;subst hne;rw[Bj hlt]at hio;cases hio;rw[BX];exact ho fun h=>Rep.mono hcell (fun _ h=>h) hcomp _ h;rw[Bi hne]at hio;rw[Fx hne];exact ObI.mono hcell (fun _ h=>h) hcomp (fun _ _ b c _ hlt=>hb b hlt) (hi.obj id o hio);intro i;by_cases hne:i=slot;subst hne;exact Co.plain (Bj hlt) hpl;exact Co.mono hcell (fun _ h=>h) hcomp (Bi hne) (fun x hx=>Wa hne x hx) (fun _ _ _ b c _ hlt=>hb b hlt) (hi.row i);intro i T e t xs ver out hio hf x hx ht b c hm;by_cases hne:i=slot;grind;rw[Wa hne x hx]at hm;rw[Bi hne]at hio;exact hi.rfz i T e t xs ver out hio hf x hx ((DH (by grind)).1 ht) b c hm;intro i j b c b' c' hoi hoj hij hmi hmj;by_cases hi1:i = .o slot;subst hi1;have hj1:=AYm hij;rw[BX]at hmi;rw[E0 hj1]at hmj;have:=hi.IT ((hown j hj1).1 hoj) hmj;grind;rw[E0 hi1]at hmi;by_cases hj1:j = .o slot;subst hj1;rw[BX]at hmj;have:=hi.IT ((hown i hi1).1 hoi) hmi;grind;rw[E0 hj1]at hmj;exact hi.sep i j b c b' c' ((hown i hi1).1 hoi) ((hown j hj1).1 hoj) hij hmi hmj;intro i b c hoi hmi hF;by_cases hi1:i = .o slot;subst hi1;rw[BX]at hmi;have:=hl b c hmi;have:=hi.lt b hF;omega;rw[E0 hi1]at hmi;exact hi.off i b c ((hown i hi1).1 hoi) hmi hF;intro i T t xs b c hio hf hmi;by_cases hi1:i=slot;grind;rw[Fx hi1]at hmi;rw[Bi hi1]at hio;exact hi.froz i T t xs b c hio hf hmi
theorem BQ.set(hi:HI w F m H fz){j b c:Nat}(hoj:owned H fz j)(hmj:m j=some (b,c)){o o':Ob}(hj:H[j]? = some o)(hss:sameShape o o')
  (h1:w'.os=w.os) (h2:w'.tape=w.tape) (h3:w'.output=w.output) (hsz:w'.heap.size=w.heap.size) (hb:∀ k,k≠b→w'.heap[k]? = w.heap[k]?)
  (ho:(∀ {a:AV} {v:Value},Rep w F m H a v→Rep w' F m (H.set j o') a v)→ObI w' F m (H.set j o') o' (m j)) (hpl:CA o'=true:=by rfl) :
  BQ w F m H fz w' F m (H.set j o') fz:=by
 have hlt:=BU hj;have hcell:∀ b,F b→w'.heap[b]? = w.heap[b]? := fun k ha=>hb k (by rintro e;exact hi.off j b c hoj hmj (e▸ha));have hcomp:C5 H (H.set j o') m m:=by
  intro i x hix hf;by_cases hne:i=j;subst hne;rw[hj]at hix;cases hix;exact .inr ⟨by rintro rfl;simp[sameShape]at hss,o',Bj hlt,hss,rfl,fun _ _ _=>rfl⟩
  ·rcases C5.refl H m i x hix hf with h|⟨hd,x',h4,h5,_⟩
   all_goals grind
 have hown:∀ i:Ix,owned (H.set j o') fz i→owned H fz i:=fun i hoi=>by
  by_cases hid:i.id=j;cases i with
   |o i=>have hid:i=j:=hid;grind
   |r i k=>have hid:i=j:=hid;subst hid;exact absurd hoi (FE (Bj hlt) hpl)
  exact(DJ (Bi hid)).1 hoi
 refine⟨⟨h1,h2,h3,AZb hsz.symm,fun k _ hk=>hb k ?_,fun _ h=>h,fun _ h=>.inl h,fun i b c ho' hm=>.inl ⟨i,c,hown i ho',hm⟩,hcomp⟩,⟨?_,?_,?_,?_,?_,?_,fun b h=>by rw[hsz];exact hi.lt b h,hi.glo.mono hcell (fun _ h=>h),by simpa using hi.len⟩⟩;grind;intro id x hix;by_cases hne:id=j;subst hne;rw[Bj hlt]at hix;cases hix;exact ho fun h=>Rep.mono hcell (fun _ h=>h) hcomp _ h;rw[Bi hne]at hix;exact ObI.mono hcell (fun _ h=>h) hcomp (fun n1 n2 b' c' hm _=>hb b' (hi.ne hoj hmj hix n1 n2 hm hne)) (hi.obj id x hix);intro i;by_cases hne:i=j;subst hne;exact Co.plain (Bj hlt) hpl;exact Co.mono hcell (fun _ h=>h) hcomp (Bi hne) (fun _ _=>rfl) (fun x hx hox b' c' hm _=>hb b' (hi.neX hoj hmj hox hm (by rintro rfl;exact hne hx.symm))) (hi.row i);intro i T e t xs ver out hio hf x hx ht b' c' hm;by_cases hne:i=j;subst hne;rw[Bj hlt]at hio;cases hio;cases hpl;rw[Bi hne]at hio;exact hi.rfz i T e t xs ver out hio hf x hx ((DH (by grind)).1 ht) b' c' hm;exact fun i k b c b' c' hoi hok=>hi.sep i k b c b' c' (hown i hoi) (hown k hok);exact fun i b c hoi=>hi.off i b c (hown i hoi);intro i T t xs b' c' hio hf hmi;by_cases hne:i=j;subst hne;rw[Bj hlt]at hio;cases hio;cases o<;>simp only[sameShape]at hss;simp only[owned,Cd]at hoj;grind;rw[Bi hne]at hio;exact hi.froz i T t xs b' c' hio hf hmi
theorem BQ.move(hi:HI w F m H fz){j b c slot:Nat}(hoj:owned H fz j)(hmj:m j=some (b,c))(hs:Bc H fz slot=true){ob:Ob}(hal:alive ob){b' c':Nat}
  (hb':b'=b∨w.heap.size≤b')
  (h1:w'.os=w.os) (h2:w'.tape=w.tape) (h3:w'.output=w.output) (hsz:w.heap.size≤w'.heap.size) (hb:∀ k,k<w.heap.size→k≠b→w'.heap[k]? = w.heap[k]?)
  (ho:(∀ {a:AV} {v:Value},Rep w F m H a v→Rep w' F (upd m slot (some (b',c'))) ((H.set j .dead).set slot ob) a v)→ObI w' F (upd m slot (some (b',c'))) ((H.set j .dead).set slot ob) ob (some (b',c'))) (hpl:CA ob=true:=by rfl) :
  BQ w F m H fz w' F (upd m slot (some (b',c'))) ((H.set j .dead).set slot ob) fz:=by
 obtain⟨hs1,hs2⟩:=B9 hs;obtain⟨oj,hj,hjf,hjd⟩:=FG hoj;have hjs:j≠slot:=by grind
 have hltj:=BU hj;have hlts:=BU hs1;have hgs:((H.set j .dead).set slot ob)[slot]? = some ob:=Bj (by grind);have hgj:((H.set j .dead).set slot ob)[j]? = some .dead:=by grind
 have hgo:∀ i,i≠j→i≠slot→((H.set j .dead).set slot ob)[i]? = H[i]? := fun i h4 h5=>by grind
 have hbF:¬ F b:=hi.off j b c hoj hmj;have hcell:∀ b,F b→w'.heap[b]? = w.heap[b]? := fun k ha=>hb k (hi.lt _ ha) (by grind);have hcomp:C5 H ((H.set j .dead).set slot ob) m (upd m slot (some (b',c'))):=by
  intro i x hix hf;have hne:i≠slot:=by grind
  by_cases hij:i=j;grind;rcases C5.refl H m i x hix hf with h|⟨hd,x',h4,h5,_⟩
  grind;exact .inr ⟨hd,x',by grind,h5,Fx hne,fun _ _ k=>E0 (by simp)⟩
 have hown:∀ i:Ix,i≠.o slot→owned ((H.set j .dead).set slot ob) fz i→owned H fz i∧i≠.o j:=fun i hne hoi=>by
  by_cases hid:i.id=slot;cases i with
   |o i=>exact absurd (AYh Ix.o hid) hne
   |r i k=>have hid:i=slot:=hid;subst hid;exact absurd hoi (FE hgs hpl)
  by_cases hij:i.id=j;obtain⟨o,ho,_,hd⟩:=Dq hoi;grind;exact⟨(DJ (hgo i.id hij hid)).1 hoi,by rintro rfl;exact hij rfl⟩
 refine⟨⟨h1,h2,h3,hsz,fun k hk hn=>hb k hk ?_,fun _ h=>h,fun _ h=>.inl h,?_,hcomp⟩,⟨?_,?_,?_,?_,?_,?_,fun b h=>AYl (hi.lt b h) hsz,hi.glo.mono hcell (fun _ h=>h),by simpa using hi.len⟩⟩;grind;intro i b2 c2 ho' hm;by_cases hne:i = .o slot;subst hne;rw[BX]at hm;grind;rw[E0 hne]at hm;grind;intro id x hix;by_cases hne:id=slot;subst hne;rw[hgs]at hix;cases hix;rw[BX];exact ho fun h=>Rep.mono hcell (fun _ h=>h) hcomp _ h;rw[Fx hne];by_cases hij:id=j;subst hij;rw[hgj]at hix;cases hix;trivial;rw[hgo id hij hne]at hix;exact ObI.mono hcell (fun _ h=>h) hcomp (fun n1 n2 b2 c2 hm hlt=>hb b2 hlt (hi.ne hoj hmj hix n1 n2 hm hij)) (hi.obj id x hix);intro i;by_cases hne:i=slot;subst hne;exact Co.plain hgs hpl;by_cases hij:i=j;subst hij;exact Co.plain hgj rfl;exact Co.mono hcell (fun _ h=>h) hcomp (hgo i hij hne) (fun x hx=>Wa hne x hx) (fun x hx hox b2 c2 hm hlt=>hb b2 hlt (hi.neX hoj hmj hox hm (by rintro rfl;exact hij hx.symm))) (hi.row i);intro i T e t xs ver out hio hf x hx ht b2 c2 hm;by_cases hne:i=slot;grind;by_cases hij:i=j;grind;rw[hgo i hij hne]at hio;rw[Wa hne x hx]at hm;exact hi.rfz i T e t xs ver out hio hf x hx ((DH (by grind)).1 ht) b2 c2 hm;intro i k b1 c1 b2 c2 hoi hok hik hmi hmk;by_cases hi1:i = .o slot;subst hi1;have hk1:=AYm hik;rw[BX]at hmi;cases hmi;rw[E0 hk1]at hmk;obtain⟨hok,hkj⟩:=hown k hk1 hok;rcases hb' with rfl|h;exact(hi.sep k j b2 c2 b' c hok hoj hkj hmk hmj).symm;have:=hi.IT hok hmk;omega;rw[E0 hi1]at hmi;obtain⟨hoi',hij⟩:=hown i hi1 hoi;by_cases hk1:k = .o slot;subst hk1;rw[BX]at hmk;cases hmk;rcases hb' with rfl|h;exact hi.sep i j b1 c1 b' c hoi' hoj hij hmi hmj;have:=hi.IT hoi' hmi;omega;rw[E0 hk1]at hmk;exact hi.sep i k b1 c1 b2 c2 hoi' (hown k hk1 hok).1 hik hmi hmk;intro i b1 c1 hoi hmi hF;by_cases hi1:i = .o slot;subst hi1;rw[BX]at hmi;cases hmi;rcases hb' with rfl|h;grind;have:=hi.lt _ hF;omega;rw[E0 hi1]at hmi;exact hi.off i b1 c1 (hown i hi1 hoi).1 hmi hF;intro i T t xs b1 c1 hio hf hmi;by_cases hi1:i=slot;grind;rw[Fx hi1]at hmi;by_cases hij:i=j;grind;rw[hgo i hij hi1]at hio;exact hi.froz i T t xs b1 c1 hio hf hmi
def AE1(H:List Ob)(x:Ix):Prop:=there H x∧((∃ T t xs,H[x.id]? = some (.arr T t xs))∨∃ T e t xs ver out,H[x.id]? = some (.rows T e t xs ver out))
def Ds(F:Nat→Prop)(m:Mp)(H:List Ob)(ids:List Nat)(b:Nat):Prop:=
 F b∨∃ x:Ix,x.id∈ids∧AE1 H x∧∃ c,m x=some (b,c)
theorem Dn(ids:List Nat):∀ (fz:List Bool),(BI ids fz).length=fz.length:=by
 induction ids with
  |nil=>intro fz;rfl
  |cons a ids ih=>intro fz;rw[BI,ih,AZN]
theorem Bh(ids:List Nat):∀ (fz:List Bool) (i:Nat),(BI ids fz).getD i false=(fz.getD i false||(decide (i∈ids)&&decide (i<fz.length))):=by
 induction ids with
  |nil=>intro fz i;simp[BI]
  |cons a ids ih=>intro fz i;rw[BI,ih,AZN];grind
theorem BQ.freeze(hi:HI w F m H fz)(ids:List Nat):BQ w F m H fz w (Ds F m H ids) m H (BI ids fz):=by
 have hlen:∀ {i:Nat} {o:Ob},H[i]? = some o→i<fz.length:=fun h=>AYl (BU h) (AZb hi.len);have unf:∀ {i:Nat},(BI ids fz).getD i false=false→i<fz.length→fz.getD i false=false∧i∉ids:=by intro i h hl;rw[Bh]at h;grind
 have hown:∀ x:Ix,owned H (BI ids fz) x→owned H fz x∧(x.id∉ids∨¬ AE1 H x):=by
  intro x ho;cases x with
   |r i k=>simp only[owned]at ho ⊢;split at ho;rename_i T e t xs ver out h1;obtain⟨h2,h3⟩:=unf ho.2 (hlen h1);exact⟨⟨ho.1,h2⟩,.inl h3⟩;grind
   |o i=>
    simp only[owned,Cd]at ho ⊢;cases hio:H[i]? with
     |none=>grind
     |some o=>
      rw[hio]at ho;have no:((∃ T t xs,o=Ob.arr T t xs)∨∃ T e t xs ver out,o=Ob.rows T e t xs ver out)∨¬ AE1 H (.o i):=by
       by_cases h:(∃ T t xs,o=Ob.arr T t xs)∨∃ T e t xs ver out,o=Ob.rows T e t xs ver out;grind;refine .inr fun ⟨_,h2⟩=>h ?_;rcases h2 with⟨T,t,xs,h2⟩|⟨T,e,t,xs,ver,out,h2⟩
       have h2:H[i]? = some (.arr T t xs):=h2;grind;have h2:H[i]? = some (.rows T e t xs ver out):=h2;grind
      cases o with
       |free=>grind
       |dead=>grind
       |box cs=>grind
       |map k v es=>grind
       |prs T tgt is=>grind
       |rows T e t xs ver out=>obtain⟨h2,h3⟩:=unf ho (hlen hio);exact⟨h2,.inl h3⟩
       |arr T t xs=>obtain⟨h2,h3⟩:=unf ho (hlen hio);exact⟨h2,.inl h3⟩
 have hsub:∀ b,F b→Ds F m H ids b:=fun b h=>.inl h;have hownS:∀ x:Ix,AE1 H x→owned H fz x∨(∀ b c,m x=some (b,c)→F b):=by
  rintro x ⟨ht,⟨T,t,xs,h⟩|⟨T,e,t,xs,ver,out,h⟩⟩;cases x with
   |r i k=>exact absurd ht (oR h rfl)
   |o i=>
    have h:H[i]? = some (.arr T t xs):=h;cases hx:fz.getD i false with
     |true=>exact .inr fun b c hm=>hi.froz i T t xs b c h hx hm
     |false=>exact .inl (by simp only[owned,Cd];grind)
  cases hx:fz.getD x.id false with
   |true=>exact .inr fun b c hm=>hi.rfz x.id T e t xs ver out h hx x rfl ht b c hm
   |false=>
    left;cases x with
     |o i=>simp only[owned,Cd];rw[show H[i]? = _ from h];exact hx
     |r i k=>simp only[owned,there]at ht ⊢;rw[show H[i]? = _ from h]at ht ⊢;exact⟨ht,hx⟩
 refine⟨⟨rfl,rfl,rfl,AXl _,fun _ _ _=>rfl,hsub,?_,fun i b c h1 h2=>.inl ⟨i,c,(hown i h1).1,h2⟩,C5.refl H m⟩,⟨?_,?_,?_,?_,?_,?_,?_,hi.glo.mono (fun _ _=>rfl) hsub,by rw[Dn];exact hi.len⟩⟩;·rintro b (h|⟨x,hx,h4,c,h5⟩);all_goals grind
 exact fun id o ho=>ObI.mono (fun _ _=>rfl) hsub (C5.refl H m) (fun _ _ _ _ _ _=>rfl) (hi.obj id o ho);exact fun i=>Co.mono (fun _ _=>rfl) hsub (C5.refl H m) rfl (fun _ _=>rfl) (fun _ _ _ _ _ _ _=>rfl) (hi.row i);intro i T e t xs ver out hio hf x hx ht b c hm;rw[Bh]at hf;simp only[AYe,AXd,AXc]at hf;rcases hf with hf|⟨hf,_⟩
 exact .inl (hi.rfz i T e t xs ver out hio hf x hx ht b c hm);exact .inr ⟨x,by grind,⟨ht,.inr ⟨T,e,t,xs,ver,out,by grind⟩⟩,c,hm⟩;exact fun i j b c b' c' h1 h2=>hi.sep i j b c b' c' (hown i h1).1 (hown j h2).1;rintro i b c h1 h2 (hF|⟨x,hx,h4,c',h5⟩);exact hi.off i b c (hown i h1).1 h2 hF;have hki:x≠i:=by grind
 exact hi.neX (hown i h1).1 h2 h4.1 h5 hki rfl;intro i T t xs b c hio hf hmi;rw[Bh]at hf;simp only[AYe,AXd,AXc]at hf;rcases hf with hf|⟨hf,_⟩
 exact .inl (hi.froz i T t xs b c hio hf hmi);exact .inr ⟨.o i,hf,⟨⟨_,hio,by simp,by simp⟩,.inl ⟨T,t,xs,hio⟩⟩,c,hmi⟩;rintro b (h|⟨x,_,h4,c,h5⟩);exact hi.lt b h;exact hi.rP h4.1 h5
end
end Go.Pev
end
section
namespace Go.Pev
open Go.RowKit
theorem H5(a:Addr)(n:Nat):(a.add n).block=a.block:=by unfold Addr.add;grind
theorem add_add(a:Addr)(i j:Nat):(a.add i).add j=a.add (i+j):=by unfold Addr.add;grind
theorem Cs(b o n:Nat):(⟨b,o,none⟩:Addr).add n=⟨b,o+n,none⟩:=by unfold Addr.add;simp
theorem Dh{t t':Ty}{d:t.den}{x:t'.den}(h:cast d=some x):∃ e:t=t',e▸d=x:=by unfold cast at h;grind
theorem C9{t t':Ty}{d:List t.den}{x:List t'.den}(h:Lc d=some x):∃ e:t=t',e▸d=x:=by unfold Lc at h;grind
theorem EZ{α:Type}{R:α→List Value→Prop}{k:Nat}(hk:∀ x cs,R x cs→cs.length=k):∀ {xs:List α} {cs:List Value} (n:Nat),rows R xs cs→rows R (xs.take n) (cs.take (n*k)):=by
 intro xs;induction xs with
  |nil=>rintro cs n rfl;simp[rows]
  |cons x xs ih=>
   rintro cs n ⟨c1,c2,rfl,h1,h2⟩;cases n with
    |zero=>simp[rows]
    |succ n=>have hl:=hk _ _ h1;refine⟨c1,c2.take (n*k),?_,h1,ih n h2⟩;rw[AaO,AYr,AZa,AY7 (by omega)];grind
theorem Hp{α:Type}{R:α→List Value→Prop}{k:Nat}(hk:∀ x cs,R x cs→cs.length=k):∀ {xs:List α} {cs:List Value} (n:Nat),rows R xs cs→rows R (xs.drop n) (cs.drop (n*k)):=by
 intro xs;induction xs with
  |nil=>rintro cs n rfl;simp[rows]
  |cons x xs ih=>
   rintro cs n ⟨c1,c2,rfl,h1,h2⟩;cases n with
    |zero=>simp only[AZI,AZr];exact⟨c1,c2,rfl,h1,h2⟩
    |succ n=>
     have hl:=hk _ _ h1;have e:(c1++c2).drop ((n+1)*k)=c2.drop (n*k):=by rw[AYr,AZa,List.drop_append,AYa (show c1.length≤n*k+k by omega),AX2];grind
     grind
theorem L5{α:Type}{R:α→List Value→Prop}{k:Nat}(hk:∀ x cs,R x cs→cs.length=k){xs:List α}{cs:List Value}(h:rows R xs cs){i:Nat}{x:α}(hx:xs[i]? = some x):
  R x ((cs.drop (i*k)).take k):=by
 have h1:=EZ hk 1 (Hp hk i h);rw[AZa]at h1;have h2:(xs.drop i).take 1=[x]:=by
  have hlt:i<xs.length:=by grind
  rw[AYH hlt];grind
 rw[h2]at h1;obtain⟨c1,c2,e,h3,rfl⟩:=h1;grind
theorem II{α:Type}{R:α→List Value→Prop}{xs ys:List α}{cs ds:List Value}(h:rows R xs cs)(h':rows R ys ds):rows R (xs++ys) (cs++ds):=by
 induction xs generalizing cs with
  |nil=>cases h;grind
  |cons x xs ih=>obtain⟨c1,c2,rfl,h1,h2⟩:=h;exact⟨c1,c2++ds,by simp,h1,ih h2⟩
theorem pX{α:Type}{R:α→List Value→Prop}{k:Nat}(hk:∀ x cs,R x cs→cs.length=k):∀ {xs:List α} {cs:List Value} {i:Nat} {y:α} {ds:List Value},rows R xs cs→i<xs.length→R y ds →
  rows R (xs.set i y) (cs.take (i*k)++ds++cs.drop (i*k+k)):=by
 intro xs;induction xs with
  |nil=>simp
  |cons x xs ih=>
   rintro cs i y ds ⟨c1,c2,rfl,h1,h2⟩ hi hy;have hl:=hk _ _ h1;cases i with
    |zero=>simp only[List.set_cons_zero,AZr,List.take_zero,AX2,AYQ];refine⟨ds,c2,?_,hy,h2⟩;grind
    |succ i=>simp only[List.set_cons_succ];refine⟨c1,_,?_,h1,ih h2 (by grind) hy⟩;rw[AYr,AZa,AaO,AY7 (show c1.length≤i*k+k by omega),List.drop_append,AYa (show c1.length≤i*k+k+k by omega)];grind
section
variable {w:World} {F:Nat→Prop} {m:Mp} {H:List Ob} {fz:List Bool}
theorem AJj{ids ids':List Nat}(h:∀ i∈ids,i∈ids'){b:Nat}(hb:Ds F m H ids b):Ds F m H ids' b:=by
 rcases hb with hb|⟨i,hi,r⟩
 exact .inl hb;exact .inr ⟨i,h i.id hi,r⟩
theorem Dat.frz{t:Ty}{d:t.den}{cs:List Value}{ids:List Nat}(h:Dat w F t d cs):Dat w (Ds F m H ids) t d cs:=h.mono (fun _ _=>rfl) (fun _=>.inl) t
theorem Dat.APq{t:Ty}{d:t.den}{cs:List Value}{ids ids':List Nat}(hh:∀ i∈ids,i∈ids')(h:Dat w (Ds F m H ids) t d cs):Dat w (Ds F m H ids') t d cs:=h.mono (fun _ _=>rfl) (fun _=>AJj hh) t
theorem bS{vs:Array Value}{row:List Value}(h:vs.toList.take row.length=row){j:Nat}{u:Value}(hu:row[j]? = some u):vs[j]? = some u:=by grind
theorem Si{F':Nat→Prop}{l:Option (Nat×Nat)}{T:TypeId}{e:Ty}{xs:List e.den}(h:ObI w F m H (.arr T e xs) l){v:Value}(hr:Bq (some (.arr T e xs)) l v)(hF:∀ b,F b→F' b)(hl:∀ b c,l=some (b,c)→F' b):
  Dat w F' (.slice e) xs [v]:=by
 obtain⟨_,h⟩:=h;cases l with
  |none=>obtain⟨a,rfl⟩:=hr;simp only at h;subst h;exact⟨a,0,rfl,AXl _,fun h=>absurd rfl h⟩
  |some p=>obtain⟨b,cap⟩:=p;obtain⟨vs,row,e1,e2,e3,e4,e5,e6⟩:=h;simp only[Bq]at hr;subst hr;refine⟨_,cap,rfl,e2,fun _=>⟨_,row,rfl,hl b cap rfl,B8 (fun x _ cs hx=>hx.mono (fun _ _=>rfl) hF e) e5,fun j u hu => ?_⟩⟩;rw[Cs];simp only[World.cell?,e1,AYQ];grind
theorem AE0{id:Nat}{T:TypeId}{e:Ty}{xs:List e.den}(ho:H[id]? = some (.arr T e xs)){b c:Nat}(hm:m id=some (b,c)):Ds F m H [id] b:=
 .inr ⟨.o id,by simp[Ix.id],⟨⟨_,ho,by simp,by simp⟩,.inl ⟨T,e,xs,ho⟩⟩,c,hm⟩
theorem AA8(hi:HI w F m H fz){id:Nat}{T:TypeId}{e:Ty}{xs:List e.den}(ho:H[id]? = some (.arr T e xs)){v:Value}(hr:Bq (some (.arr T e xs)) (m id) v):
  Dat w (Ds F m H [id]) (.slice e) xs [v]:=Si (hi.obj id _ ho) hr (fun _=>.inl) fun _ _ hm=>AE0 ho hm
theorem AHr{α:Type}{R:α→List Value→Prop}:∀ {xs:List α} {us:List Value},us.length=xs.length→(∀ (k:Nat) (x:α) (u:Value),xs[k]? = some x→us[k]? = some u→R x [u])→rows R xs us:=by
 intro xs;induction xs with
  |nil=>intro us hl _;exact AX7 hl
  |cons x xs ih=>
   intro us hl h;match us,hl with
   |u::us,hl=>exact⟨[u],us,rfl,h 0 x u rfl rfl,ih (by grind) fun k y v hy hv=>h (k+1) y v hy hv⟩
theorem tC(hi:HI w F m H fz){id:Nat}{T e:TypeId}{t:Ty}{xs:List (List t.den)}{ver:Nat}(ho:H[id]? = some (.rows (.arr T) e t xs ver none)){v:Value}(hr:Bq (some (.rows (.arr T) e t xs ver none)) (m id) v):
  Dat w (Ds F m H [id]) (.slice (.slice t)) xs [v]:=by
 obtain⟨_,h⟩:=hi.obj id _ ho;have hfr:∀ x:Ix,x.id=id→there H x→∀ b c,m x=some (b,c)→Ds F m H [id] b:=fun x hx ht b c hm=>.inr ⟨x,by simp[hx],⟨ht,.inr ⟨.arr T,e,t,xs,ver,none,by grind⟩⟩,c,hm⟩;cases hm:m id with
  |none=>rw[hm]at h hr;obtain⟨a,rfl⟩:=hr;obtain⟨_,h⟩:=h;subst h;exact⟨a,0,rfl,AXl _,fun h=>absurd rfl h⟩
  |some p=>
   obtain⟨b,cap⟩:=p;rw[hm]at h hr;obtain⟨vs,e1,e2,e3,e4,e5⟩:=h;simp only[Bq]at hr;subst hr;refine⟨_,cap,rfl,e2,fun _=>⟨_,vs.toList.take (List.length (α:=List t.den) xs),rfl,hfr (.o id) rfl ⟨_,ho,by simp,by simp⟩ b cap hm,AHr (by grind) fun k ys u hk hu => ?_,fun j u hu => ?_⟩⟩;obtain⟨h1,h2⟩:=hi.row id _ e t xs ver none ho k ys hk;obtain⟨b',cap',u',a1,⟨vs',a2,a3⟩,a4⟩:=h2 (by simp);rw[hm]at a1;cases a1;rw[e1]at a2;cases a2;have hlt:k<List.length (α:=List t.den) xs:=by grind
   rw[AZk,AXp hlt,a3]at hu;cases hu;exact Si h1 a4 (fun _=>.inl) (hfr (.r id k) rfl (by simp only[there];grind));rw[Cs];simp only[World.cell?,e1,AYQ];grind
theorem APz{α β:Type}{K:α→Value→Prop}{V:β→Value→Prop}:∀ {es:List (α×β)} {ms:List MapEntry},ms.length=es.length→(∀ (k:Nat) (x:α×β) (u:MapEntry),es[k]? = some x→ms[k]? = some u→K x.1 u.key∧V x.2 u.val)→Ys K V es ms:=by
 intro es;induction es with
  |nil=>intro us hl _;exact AX7 hl
  |cons x xs ih=>
   intro us hl h;match us,hl with
   |u::us,hl=>
    obtain⟨h1,h2⟩:=h 0 x u rfl rfl
    exact⟨u,us,rfl,h1,h2,ih (by grind) fun k y v hy hv=>h (k+1) y v hy hv⟩
theorem k7(hi:HI w F m H fz){id:Nat}{j:IntKind}{ks:List Int}{e:TypeId}{t:Ty}{xs:List (List t.den)}{ver:Nat}(ho:H[id]? = some (.rows (.map j ks) e t xs ver none)){v:Value}(hr:Ld (some (.rows (.map j ks) e t xs ver none)) (m id) v):
  Dat w (Ds F m H [id]) (.mapi j (.slice t)) (List.zip (β:=List t.den) ks xs) [v]:=by
 obtain⟨_,h⟩:=hi.obj id _ ho;have hfr:∀ x:Ix,x.id=id→there H x→∀ b c,m x=some (b,c)→Ds F m H [id] b:=fun x hx ht b c hm=>.inr ⟨x,by simp[hx],⟨ht,.inr ⟨.map j ks,e,t,xs,ver,none,by grind⟩⟩,c,hm⟩;obtain⟨b,cap,hm,rfl⟩:=hr;rw[hm]at h;obtain⟨ms,clock,e1,e2,e3,e4,_⟩:=h;have hxk:List.length (α:=List t.den) xs=ks.length:=by grind
 have hmk:ms.toList.length=ks.length:=by have:=AYh List.length e3;grind
 refine⟨b,ms,clock,rfl,hfr (.o id) rfl ⟨_,ho,by simp,by simp⟩ b cap hm,e1,APz (by grind) fun k x u hx hu => ?_⟩;rw[List.getElem?_zip_eq_some]at hx;obtain⟨hk,hys⟩:=hx;obtain⟨h1,h2⟩:=hi.row id _ e t xs ver none ho k x.2 hys;obtain⟨b',cap',u',a1,⟨ms',clock',en,a2,a3,rfl⟩,a4⟩:=h2 (by simp);rw[hm]at a1;cases a1;rw[e1]at a2;cases a2;rw[hu]at a3;cases a3;have hlt:k<List.length (α:=List t.den) xs:=by grind
 refine⟨?_,Si h1 a4 (fun _=>.inl) (hfr (.r id k) rfl (by simp only[there];grind))⟩;have:=AYh (fun l:List Value=>l[k]?) e3;grind
theorem AA7(hi:HI w F m H fz){id:Nat}{T:TypeId}{e:Ty}{xs:List e.den}(ho:H[id]? = some (.arr T e xs)){off n:Nat}{v:Value}(hr:HQ (some (.arr T e xs)) (m id) off n v):
  Dat w (Ds F m H [id]) (.slice e) (E' off n xs) [v]:=by
 have h:=hi.obj id _ ho;obtain⟨_,h⟩:=h;obtain⟨hle,hr⟩:=hr;have hlen:(E' off n xs).length=n:=by unfold E';grind
 cases hm:m id with
  |none=>
   rw[hm]at h hr;obtain⟨a,rfl⟩:=hr;simp only at h;subst h;have hn:n=0:=by grind
   refine⟨a,0,by rw[hlen],by omega,fun h=>absurd ?_ h⟩;grind
  |some p=>
   obtain⟨b,cap⟩:=p;rw[hm]at h hr;obtain⟨vs,row,e1,e2,e3,e4,e5,e6⟩:=h;obtain⟨a,rfl,ha⟩:=hr;have hk:=fun(x:e.den) cs (h:Dat w F e x cs)=>Dat.length e h;refine⟨a,cap-off,by rw[hlen],by omega,fun hne => ?_⟩;have hn:0<n:=by grind
   refine⟨_,(row.drop (off*e.size)).take (n*e.size),ha (by omega),AE0 ho hm,B8 (fun x _ cs hx=>hx.frz) (EZ hk n (Hp hk off e5)),fun j u hu => ?_⟩;rw[Cs];simp only[World.cell?,e1];grind
theorem fZ(hi:HI w F m H fz){t:Ty}{v:AV}{x:t.den}{fr:List Nat}(h:ES H t v=some (x,fr))(ht:t.isAgg=false){u:Value}(hr:Rep w F m H v u):Dat w (Ds F m H fr) t x [u]:=by unfold ES at h;split at h;rename_i t' d;simp only[AXm,AXt]at h;obtain⟨y,h1,rfl,rfl⟩:=h;obtain⟨e,h2⟩:=Dh h1;subst e;simp only at h2;subst h2;unfold Rep CW at hr;rw[ht]at hr;exact Dat.frz (by grind);rename_i e' d;simp only[AXm,AXt]at h;obtain⟨y,h1,rfl,rfl⟩:=h;obtain⟨e,h2⟩:=Dh h1;subst e;simp only at h2;subst h2;unfold Rep at hr;exact Dat.frz hr.1;split at h;simp only[AXa,AXt]at h;obtain⟨rfl,rfl⟩:=h;unfold Rep at hr;subst hr;exact⟨none,0,rfl,AXl _,fun h=>absurd rfl h⟩;simp only[AXa,AXt]at h;obtain⟨_,rfl⟩:=h;unfold Rep at hr;subst hr;rfl;grind;rename_i id;split at h;rename_i T e xs ho;simp only[AXm,AXt]at h;obtain⟨y,h1,rfl,rfl⟩:=h;obtain⟨e',h2⟩:=Dh h1;subst e';simp only at h2;subst h2;unfold Rep at hr;rw[ho]at hr;exact AA8 hi ho hr;grind;rename_i id off n;split at h;rename_i T e xs ho;simp only[AXm,AXt]at h;obtain⟨y,h1,rfl,rfl⟩:=h;obtain⟨e',h2⟩:=Dh h1;subst e';simp only at h2;subst h2;unfold Rep at hr;rw[ho]at hr;exact AA7 hi ho hr;grind;rename_i id;split at h;rename_i j ks _ e xs ver ho;simp only[AXm,AXt]at h;obtain⟨y,h1,rfl,rfl⟩:=h;obtain⟨e',h2⟩:=Dh h1;subst e';simp only at h2;subst h2;unfold Rep at hr;rw[ho]at hr;exact k7 hi ho hr;grind;grind
theorem ATe{α:Type}{one:List AV→Option (α×List Nat×List AV)}{R:List Nat→α→List Value→Prop}
  (hR:∀ fr fr' x cs,(∀ i∈fr,i∈fr')→R fr x cs→R fr' x cs)
  (h1:∀ cs x fr rest us,one cs=some (x,fr,rest)→BD w F m H cs us→∃ us1 us2,us=us1++us2∧R fr x us1∧BD w F m H rest us2) :
  ∀ (n:Nat) {cs:List AV} {xs:List α} {fr:List Nat} {rest:List AV} {us:List Value},QK one n cs=some (xs,fr,rest)→BD w F m H cs us →
   ∃ us1 us2,us=us1++us2∧xs.length=n∧rows (R fr) xs us1∧BD w F m H rest us2:=by
 intro n;induction n with
  |zero=>intro cs xs fr rest us h hr;simp only[QK,AXa,AXt]at h;obtain⟨rfl,rfl,rfl⟩:=h;exact⟨[],us,rfl,rfl,rfl,hr⟩
  |succ n ih=>intro cs xs fr rest us h hr;simp only[QK]at h;split at h;cases h;rename_i x f cs1 ho;split at h;cases h;rename_i ys g cs2 hi;simp only[AXa,AXt]at h;obtain⟨rfl,rfl,rfl⟩:=h;obtain⟨u1,u2,rfl,r1,r2⟩:=h1 _ _ _ _ _ ho hr;obtain⟨u3,u4,rfl,hl,r3,r4⟩:=ih hi r2;exact⟨u1++u3,u4,by simp,by simp[hl],⟨u1,u3,rfl,hR _ _ _ _ (fun i hi=>by simp[hi]) r1,B8 (fun x _ cs hx=>hR _ _ _ _ (fun i hi=>by simp[hi]) hx) r3⟩,r4⟩
theorem YV(hi:HI w F m H fz):∀ (t:Ty) {cs:List AV} {x:t.den} {fr:List Nat} {rest:List AV} {us:List Value},BW H t cs=some (x,fr,rest)→BD w F m H cs us →
  ∃ us1 us2,us=us1++us2∧Dat w (Ds F m H fr) t x us1∧BD w F m H rest us2:=by
 have cell:∀ (t:Ty),t.isAgg=false→∀ {c:AV} {cs:List AV} {x:t.den} {fr:List Nat} {rest:List AV} {us:List Value} {p:Option (t.den×List Nat)},ES H t c=p →
   p=some (x,fr)→cs=rest→BD w F m H (c::cs) us →
   ∃ us1 us2,us=us1++us2∧Dat w (Ds F m H fr) t x us1∧BD w F m H rest us2:=by
  rintro t ht c cs x fr rest us p hy rfl rfl hr
  unfold BD at hr
  obtain⟨v,vs',rfl,h1,h2⟩:=hr
  exact⟨[v],vs',rfl,fZ hi hy ht h1,h2⟩
 intro t;induction t with
  |unit=>intro cs x fr rest us h hr;simp only[BW,AXa,AXt]at h;obtain⟨_,rfl,rfl⟩:=h;exact⟨[],us,rfl,rfl,hr⟩
  |bool=>
   intro cs x fr rest us h hr;cases cs with
    |nil=>simp[BW]at h
    |cons c cs=>unfold BW at h;split at h;cases h;rename_i y f hy;simp only[AXa,AXt]at h;obtain⟨h1,h2,h3⟩:=h;exact cell .bool rfl hy (by grind) h3 hr
  |int k=>
   intro cs x fr rest us h hr;cases cs with
    |nil=>simp[BW]at h
    |cons c cs=>unfold BW at h;split at h;cases h;rename_i y f hy;simp only[AXa,AXt]at h;obtain⟨h1,h2,h3⟩:=h;exact cell (.int k) rfl hy (by grind) h3 hr
  |slice e _=>
   intro cs x fr rest us h hr;cases cs with
    |nil=>simp[BW]at h
    |cons c cs=>unfold BW at h;split at h;cases h;rename_i y f hy;simp only[AXa,AXt]at h;obtain⟨h1,h2,h3⟩:=h;exact cell (.slice e) rfl hy (by grind) h3 hr
  |nul e=>
   intro cs x fr rest us h hr;cases cs with
    |nil=>simp[BW]at h
    |cons c cs=>unfold BW at h;split at h;cases h;rename_i y f hy;simp only[AXa,AXt]at h;obtain⟨_,h2,h3⟩:=h;exact cell (.nul e) rfl hy (by rw[h2]) h3 hr
  |mapi j e _=>
   intro cs x fr rest us h hr;cases cs with
    |nil=>simp[BW]at h
    |cons c cs=>unfold BW at h;split at h;cases h;rename_i y f hy;simp only[AXa,AXt]at h;obtain⟨h1,h2,h3⟩:=h;exact cell (.mapi j e) rfl hy (by grind) h3 hr
  |prod a b iha ihb=>intro cs x fr rest us h hr;simp only[BW]at h;split at h;cases h;rename_i y f cs1 hy;split at h;cases h;rename_i z g cs2 hz;simp only[AXa,AXt]at h;obtain⟨rfl,rfl,rfl⟩:=h;obtain⟨u1,u2,rfl,r1,r2⟩:=iha hy hr;obtain⟨u3,u4,rfl,r3,r4⟩:=ihb hz r2;exact⟨u1++u3,u4,by simp,⟨u1,u3,rfl,r1.APq (fun i hi=>by simp[hi]),r3.APq (fun i hi=>by simp[hi])⟩,r4⟩
  |arr n e ih=>intro cs x fr rest us h hr;simp only[BW]at h;obtain⟨u1,u2,e1,e2,e3,e4⟩:=ATe (R:=fun fr=>Dat w (Ds F m H fr) e) (fun fr fr' x cs h1 h2=>h2.APq h1) (fun cs x fr rest us h1 h2=>ih h1 h2) n h hr;exact⟨u1,u2,e1,⟨e2,e3⟩,e4⟩
theorem Dx(hi:HI w F m H fz){t:Ty}{v:AV}{x:t.den}{fr:List Nat}(h:FM H t v=some (x,fr)){u:Value}(hr:Rep w F m H v u):CW w (Ds F m H fr) t x u:=by unfold FM at h;split at h;rename_i ht;unfold CW;rw[AXp ht];unfold asAgg at h;split at h;rename_i t' d;simp only[AXm,AXt]at h;obtain⟨y,h1,rfl,rfl⟩:=h;obtain⟨e,h2⟩:=Dh h1;subst e;simp only at h2;subst h2;unfold Rep CW at hr;rw[AXp ht]at hr;obtain⟨vs,e1,e2⟩:=hr;exact⟨vs,e1,e2.frz⟩;rename_i cs;split at h;rename_i y f hy;simp only[AXa,AXt]at h;obtain⟨rfl,rfl⟩:=h;unfold Rep at hr;obtain⟨vs,rfl,hr,_⟩:=hr;obtain⟨u1,u2,e1,e2,e3⟩:=YV hi t hy hr;unfold BD at e3;grind;grind;grind;rename_i ht;unfold CW;rw[AXo (by simp[ht])];exact fZ hi h ht hr
theorem AQz(hi:HI w F m H fz){t:Ty}{v:AV}{x:t.den}{fr:List Nat}(h:ZM H t v=some (x,fr)){u:Value}(hr:Rep w F m H v u):CW w (Ds F m H fr) t x u:=by unfold ZM at h;split at h;split at h;rename_i id T e t' xs ver ho;simp only[AXm,AXt]at h;obtain⟨y,h1,rfl,rfl⟩:=h;obtain⟨e',h2⟩:=Dh h1;subst e';simp only at h2;subst h2;unfold Rep at hr;rw[ho]at hr;exact tC hi ho hr;exact Dx hi h hr;exact Dx hi h hr
theorem sb{n:Nat}(e:Ty)(d:List e.den)(h:d.length=n):CC (.arr n e) d=d.flatMap (CC e):=by
 have gen:∀ (xs:List e.den) (f:Nat→e.den),(∀ i,i<xs.length→f i=xs.getD i e.zero)→((List.range xs.length).flatMap fun i=>CC e (f i))=xs.flatMap (CC e):=by
  intro xs;induction xs with
   |nil=>simp
   |cons x xs ih=>intro f hf;rw[AXg,List.range_succ_eq_map,AY4,AY4,List.flatMap_map];simp_all
 subst h;exact gen d (fun i=>A7 d i e.zero) fun i _=>rfl
theorem Il:∀ (t:Ty) {d:t.den} {cs:List Value},Dat w F t d cs→BD w F m H (CC t d) cs:=by
 have one:∀ (t:Ty) (d:t.den) (u:Value),t.isAgg=false→Dat w F t d [u]→BD w F m H [.data t d] [u]:=by intro t d u ht h;unfold BD;refine⟨u,[],rfl,?_,?_⟩;unfold Rep CW;grind;unfold BD;rfl
 intro t;induction t with
  |unit=>rintro d cs rfl;simp only[CC];unfold BD;rfl
  |bool=>rintro d cs h;obtain rfl:=h;exact one .bool d _ rfl rfl
  |int k=>rintro d cs h;obtain rfl:=h;exact one (.int k) d _ rfl rfl
  |slice e _=>rintro d cs h;obtain⟨a,cap,rfl,h1,h2⟩:=h;exact one (.slice e) d _ rfl ⟨a,cap,rfl,h1,h2⟩
  |nul e=>rintro d cs h;obtain rfl:=h;simp only[CC];unfold BD;exact⟨_,[],rfl,by unfold Rep;rfl,by unfold BD;rfl⟩
  |mapi j e _=>rintro d cs h;have h':=h;obtain⟨b,ms,clock,rfl,_⟩:=h';exact one (.mapi j e) d _ rfl h
  |prod a b iha ihb=>rintro d cs ⟨c1,c2,rfl,h1,h2⟩;exact G8 (iha h1) (ihb h2)
  |arr n e ih=>
   rintro d cs ⟨hlen,h⟩;rw[sb e d hlen];have key:∀ (xs:List e.den) (cs:List Value),rows (Dat w F e) xs cs→BD w F m H (xs.flatMap (CC e)) cs:=by
    intro xs;induction xs with
     |nil=>rintro cs rfl;simp only[List.flatMap_nil];unfold BD;rfl
     |cons x xs ih'=>rintro cs ⟨c1,c2,rfl,h1,h2⟩;rw[AY4];exact G8 (ih h1) (ih' _ h2)
   grind
theorem Mz{v:AV}{u:Value}(hr:Rep w F m H v u):BD w F m H [v] [u]:=by unfold BD;exact⟨u,[],rfl,hr,by unfold BD;rfl⟩
theorem KR:BD w F m H [] []:=by unfold BD;rfl
theorem Fj{u:Value}(h:u.oneCell'=true):u.cells.toList=[u]:=by cases u<;>first|rfl|(simp[Value.oneCell']at h)
def AED:AV→Prop
 |.Cr=>False
 |.tup _=>False
 |.agg _=>False
 |.data t _=>t.isAgg=false
 |_=>True
theorem Xr{v:AV}{u:Value}(hr:Rep w F m H v u)(hv:AED v):u.oneCell'=true:=by
 cases v with
  |Cr=>exact hv.elim
  |tup vs=>exact hv.elim
  |agg cs=>exact hv.elim
  |data t d=>unfold AED at hv;unfold Rep CW at hr;rw[hv]at hr;exact Dat.HY t (by simpa using hr) u (by simp)
  |nils e=>unfold Rep at hr;subst hr;rfl
  |clip t xs=>unfold Rep at hr;obtain⟨_,a,rfl⟩:=hr;rfl
  |own id=>
   unfold Rep at hr;cases ho:H[id]? with
    |none=>rw[ho]at hr;exact hr.elim
    |some o=>rw[ho]at hr;exact hr.one
  |win id off n=>
   unfold Rep at hr;cases ho:H[id]? with
    |none=>rw[ho]at hr;exact hr.elim
    |some o=>rw[ho]at hr;exact hr.one
  |ptr id off=>
   unfold Rep at hr;cases ho:H[id]? with
    |none=>rw[ho]at hr;exact hr.elim
    |some o=>rw[ho]at hr;exact hr.one
  |eptr id i sub=>
   unfold Rep at hr;cases ho:H[id]? with
    |none=>rw[ho]at hr;exact hr.elim
    |some o=>rw[ho]at hr;exact hr.one
  |dptr cs=>unfold Rep at hr;obtain⟨ad,us,rfl,_⟩:=hr;rfl
  |clo f cs=>unfold Rep at hr;obtain⟨us,rfl,_⟩:=hr;rfl
  |bnd f cs=>unfold Rep at hr;obtain⟨us,rfl,_⟩:=hr;rfl
  |str xs=>unfold Rep at hr;obtain⟨us,rfl,_⟩:=hr;rfl
  |mp id=>
   unfold Rep at hr;cases ho:H[id]? with
    |none=>rw[ho]at hr;exact hr.elim
    |some o=>rw[ho]at hr;exact hr.one
  |rowp id i ver=>
   unfold Rep at hr;cases ho:H[id]? with
    |none=>rw[ho]at hr;exact hr.elim
    |some o=>rw[ho]at hr;exact hr.one
  |glob g=>unfold Rep at hr;subst hr;rfl
  |nilp=>unfold Rep at hr;subst hr;rfl
  |ifc o=>unfold Rep at hr;subst hr;rcases o with _|⟨T,l⟩<;>rfl
  |aptr id n=>
   unfold Rep at hr;cases ho:H[id]? with
    |none=>rw[ho]at hr;exact hr.elim
    |some o=>rw[ho]at hr;exact hr.one
theorem cells?_ok{v:AV}{cs:List AV}(h:cells? v=some cs){u:Value}(hr:Rep w F m H v u):BD w F m H cs u.cells.toList:=by
 have agg:∀ (t:Ty) (d:t.den),t.isAgg=true→Rep w F m H (.data t d) u→BD w F m H (CC t d) u.cells.toList:=by intro t d ht hr;unfold Rep CW at hr;rw[AXp ht]at hr;obtain⟨vs,rfl,hd⟩:=hr;exact Il t hd
 have one:AED v→cs=[v]→BD w F m H cs u.cells.toList:=by rintro hv rfl;rw[Fj (Xr hr hv)];exact Mz hr
 cases v with
  |Cr=>simp[cells?]at h
  |tup vs=>simp[cells?]at h
  |agg cs'=>simp only[cells?,AXa]at h;subst h;unfold Rep at hr;obtain⟨vs,rfl,hr',_⟩:=hr;exact hr'
  |data t d=>
   cases t with
    |unit=>simp only[cells?,AXa]at h;subst h;exact agg .unit d rfl hr
    |prod a b=>simp only[cells?,AXa]at h;subst h;exact agg _ d rfl hr
    |arr n e=>simp only[cells?,AXa]at h;subst h;exact agg _ d rfl hr
    |bool=>exact one rfl (by simpa [cells?]using h.symm)
    |int k=>exact one rfl (by simpa [cells?]using h.symm)
    |slice e=>exact one rfl (by simpa [cells?]using h.symm)
    |nul e=>exact one rfl (by simpa [cells?]using h.symm)
    |mapi j e=>exact one rfl (by simpa [cells?]using h.symm)
  |nils e=>exact one trivial (by simpa [cells?]using h.symm)
  |clip t xs=>exact one trivial (by simpa [cells?]using h.symm)
  |own id=>exact one trivial (by simpa [cells?]using h.symm)
  |win id off n=>exact one trivial (by simpa [cells?]using h.symm)
  |ptr id off=>exact one trivial (by simpa [cells?]using h.symm)
  |eptr id i sub=>exact one trivial (by simpa [cells?]using h.symm)
  |dptr cs'=>exact one trivial (by simpa [cells?]using h.symm)
  |clo f cs'=>exact one trivial (by simpa [cells?]using h.symm)
  |bnd f cs'=>exact one trivial (by simpa [cells?]using h.symm)
  |str xs=>exact one trivial (by simpa [cells?]using h.symm)
  |mp id=>exact one trivial (by simpa [cells?]using h.symm)
  |rowp id i ver=>exact one trivial (by simpa [cells?]using h.symm)
  |glob g=>exact one trivial (by simpa [cells?]using h.symm)
  |nilp=>exact one trivial (by simpa [cells?]using h.symm)
  |ifc o=>exact one trivial (by simpa [cells?]using h.symm)
  |aptr id n=>exact one trivial (by simpa [cells?]using h.symm)
theorem cells?_one{v:AV}{cs:List AV}(h:cells? v=some cs){u:Value}(hr:Rep w F m H v u):∀ x∈u.cells.toList,x.oneCell'=true:=by
 have one:AED v→∀ x∈u.cells.toList,x.oneCell'=true:=by intro hv x hx;have h1:=Xr hr hv;rw[Fj h1]at hx;grind
 have agg:∀ (t:Ty) (d:t.den),t.isAgg=true→Rep w F m H (.data t d) u→∀ x∈u.cells.toList,x.oneCell'=true:=by intro t d ht hr;unfold Rep CW at hr;rw[AXp ht]at hr;obtain⟨vs,rfl,hd⟩:=hr;exact Dat.HY t hd
 cases v with
  |Cr=>simp[cells?]at h
  |tup vs=>simp[cells?]at h
  |agg cs'=>unfold Rep at hr;obtain⟨vs,rfl,_,h1⟩:=hr;exact h1
  |data t d=>
   cases t with
    |unit=>exact agg .unit d rfl hr
    |prod a b=>exact agg _ d rfl hr
    |arr n e=>exact agg _ d rfl hr
    |bool=>exact one rfl
    |int k=>exact one rfl
    |slice e=>exact one rfl
    |nul e=>exact one rfl
    |mapi j e=>exact one rfl
  |nils e=>exact one trivial
  |clip t xs=>exact one trivial
  |own id=>exact one trivial
  |win id off n=>exact one trivial
  |ptr id off=>exact one trivial
  |eptr id i sub=>exact one trivial
  |dptr cs'=>exact one trivial
  |clo f cs'=>exact one trivial
  |bnd f cs'=>exact one trivial
  |str xs=>exact one trivial
  |mp id=>exact one trivial
  |rowp id i ver=>exact one trivial
  |glob g=>exact one trivial
  |nilp=>exact one trivial
  |ifc o=>exact one trivial
  |aptr id n=>exact one trivial
theorem KW:∀ (cs:List AV) (vs:List Value),Cj cs vs=true→∀ x∈vs,x.oneCell'=true:=by
 intro cs;induction cs with
  |nil=>
   intro vs h x hx;cases vs with
    |nil=>cases hx
    |cons v vs=>simp[Cj]at h
  |cons c cs ih=>
   intro vs h x hx;cases vs with
    |nil=>cases hx
    |cons v vs=>
     simp only[Cj,AXd]at h;rcases AXf.1 hx with rfl|hx;have h:=h.1;unfold Dl at h;split at h<;>first|rfl|cases h
     grind
theorem Je{cs new out:List AV}{off:Nat}(h:EG cs new off=some out){us vs:List Value}(h1:BD w F m H cs us)(h2:BD w F m H new vs):
  off+new.length≤cs.length∧BD w F m H out (us.take off++vs++us.drop (off+new.length)):=by unfold EG at h;split at h;rename_i hle;simp only[AXa]at h;subst h;exact⟨hle,G8 (G8 (Ni h1 off) h2) (FL h1 _)⟩;grind
theorem ABC(v:Value):Rep w F m H (k9 v) v:=by unfold k9;split;unfold Rep CW;exact rfl;unfold Rep CW;exact rfl;unfold Rep;rfl;unfold Rep;rfl;unfold Rep;simp;unfold Rep;rfl;unfold Rep;trivial
theorem Et{tmps:Tm}{a:Act}(h:∀ t,Rep w F m H (tmps.f t) (a.tmps.getD t undef))(x:Operand):Rep w F m H (BY tmps x) (a.eval x):=by
 cases x with
  |tmp t=>exact h t
  |const v=>exact ABC v
  |func f=>unfold BY Rep;exact⟨#[],rfl,KR⟩
  |global g=>unfold BY Rep;rfl
theorem HT:∀ (cs:List AV) (vs:List Value),Cj cs vs=true→BD w F m H cs vs:=by
 intro cs;induction cs with
  |nil=>intro vs h;cases vs with
   |nil=>exact KR
   |cons v vs=>simp[Cj]at h
  |cons c cs ih=>
   intro vs h;cases vs with
    |nil=>simp[Cj]at h
    |cons v vs=>simp only[Cj,AXd]at h;unfold BD;refine⟨v,vs,rfl,?_,ih vs h.2⟩;have h:=h.1;unfold Dl at h;split at h;simp only[AY1]at h;subst h;unfold Rep CW;exact rfl;simp only[AXd,AXc,AY1]at h;obtain⟨rfl,rfl⟩:=h;unfold Rep CW;exact rfl;unfold Rep;rfl;grind
end
end Go.Pev
end
section
namespace Go.Pev
open Go.RowKit
section
variable {P:Program} {w:World}
theorem run_typeInfo{T:TypeId}{i:TypeInfo}(h:P.info? T=some i):(typeInfo T).run P w = .ok i w:=by simp[typeInfo,h]
theorem run_sizeOf{T:TypeId}{i:TypeInfo}(h:P.info? T=some i):(sizeOf T).run P w = .ok i.size w:=by simp[sizeOf,run_typeInfo h]
theorem Bs{T:TypeId}{n:Nat}(h:CD P T=some n):∃ i,P.info? T=some i∧i.size=n:=by unfold CD at h;simp_all
theorem DE{T:TypeId}{b:Bool}(h:Ew P T=some b):(isAgg T).run P w = .ok b w:=by unfold Ew at h;split at h;rename_i hu;simp only[AXa]at h;subst h;simp[isAgg,run_underlying hu];rename_i hu;simp only[AXa]at h;subst h;simp[isAgg,run_underlying hu];rename_i d h1 h2 hu;simp only[AXa]at h;subst h;simp only[isAgg,Sem.run_bind,run_underlying hu,Result.andThen_ok];rfl;grind
theorem DZ{F:Nat→Prop}{m:Mp}{H:List Ob}{T:TypeId}{n:Nat}{ag:Bool}(hs:CD P T=some n)(ha:Ew P T=some ag){cs:List AV}{us:List Value}{v:AV}{ad:Addr}
  (hl:loadCells ag n cs=some v) (hr:BD w F m H cs us) (h1:∀ u∈us,u.oneCell'=true) (hc:∀ j u,us[j]? = some u→w.cell? (ad.add j)=some u) :
  ∃ u,(loadVar T ad).run P w = .ok u w∧Rep w F m H v u:=by
 obtain⟨i,hi,rfl⟩:=Bs hs;unfold loadCells at hl;cases ag with
  |true=>
   simp only at hl;split at hl;rename_i hle;simp only[AXa]at hl;subst hl;have hlen:=Ba hr;have hl2:(us.take i.size).length=i.size:=by grind
   refine⟨.agg (us.take i.size).toArray,?_,?_⟩;have:=run_loadCells_list (P:=P) w ad (us.take i.size) (fun j u hu=>by grind)
   rw[hl2]at this;simp[loadVar,DE ha,run_sizeOf hi,this];unfold Rep;exact⟨_,rfl,by simpa using Ni hr i.size,fun u hu=>h1 u (by grind)⟩;grind
  |false=>
   simp only at hl;cases cs with
    |nil=>grind
    |cons c cs=>
     simp only[List.head?_cons,AXa]at hl;subst hl;unfold BD at hr;obtain⟨u,us',rfl,h3,_⟩:=hr;refine⟨u,?_,h3⟩;have:=hc 0 u rfl;have h0:ad.add 0=ad:=by simp[Addr.add]
     rw[h0]at this;simp[loadVar,DE ha,this]
theorem Dz{T T':TypeId}{n:Nat}(hs:CD P T=some n){b off:Nat}{cur:Array Value}(hb:w.heap[b]? = some (.cells cur T' (0,0))){u:Value}(hu:u.cells.size=n)
  (h1:∀ x∈u.cells.toList,x.oneCell'=true) (hfit:off+n≤cur.size) :
  (storeVar T ⟨b,off,none⟩ u).run P w = .ok () (w.setRow b (cur.toList.take off++u.cells.toList++cur.toList.drop (off+n)).toArray):=by obtain⟨i,hi,rfl⟩:=Bs hs;have:=run_storeCells_at P b off T' u.cells.toList 0 cur w hb (by grind) h1;simp only[AZL,AX0]at this;rw[hu]at this;simp[storeVar,run_sizeOf hi,hu,this]
theorem CU{T:TypeId}{t:Ty}{cs:List AV}(h:zeroAt P T=some (t,cs)):iO P T=some t∧cs=zeroCells t∧∃ i z,P.info? T=some i∧i.zero=some z∧Cj cs z.cells.toList=true∧i.size=t.size∧t.isAgg=Om z:=by unfold zeroAt at h;grind
theorem B'{T:TypeId}{i:TypeInfo}{z:Value}(h:P.info? T=some i)(hz:i.zero=some z):(zeroValue T).run P w = .ok z w:=by simp[zeroValue,run_typeInfo h,hz]
theorem CN{F:Nat→Prop}:∀ (t:Ty) (vs:List Value),Cj (zeroCells t) vs=true→Dat w F t t.zero vs:=by
 have app:∀ (asz bs:List AV) (vs:List Value),Cj (asz++bs) vs=true→∃ v1 v2,vs=v1++v2∧Cj asz v1=true∧Cj bs v2=true:=by
  intro asz;induction asz with
   |nil=>intro bs vs h;exact⟨[],vs,rfl,rfl,h⟩
   |cons a asz ih=>
    intro bs vs h;cases vs with
     |nil=>simp[Cj]at h
     |cons v vs=>simp only[AX3,Cj,AXd]at h;obtain⟨v1,v2,rfl,h1,h2⟩:=ih bs vs h.2;exact⟨v::v1,v2,rfl,by simp[Cj,h.1,h1],h2⟩
 have one:∀ (a:AV) (vs:List Value),Cj [a] vs=true→∃ v,vs=[v]∧Dl a v=true:=by
  intro a vs h;cases vs with
   |nil=>simp[Cj]at h
   |cons v vs=>
    simp only[Cj,AXd]at h;cases vs with
     |nil=>grind
     |cons x xs=>simp[Cj]at h
 intro t;induction t with
  |unit=>intro vs h;cases vs with
   |nil=>exact rfl
   |cons v vs=>simp[Cj,zeroCells]at h
  |bool=>intro vs h;obtain⟨v,hv,h'⟩:=one (.data .bool false) _ h;subst hv;clear h;have h:=h';unfold Dl at h;split at h;rename_i h1;simp only[AV.data.injEq]at h1;simp only[AY1]at h;subst h;obtain⟨_,h1⟩:=h1;exact AYh (fun b=>[Value.bool b]) (eq_of_heq h1).symm;all_goals grind
  |int k=>intro vs h;obtain⟨v,hv,h'⟩:=one (.data (.int k) (0:Int)) _ h;subst hv;clear h;have h:=h';unfold Dl at h;split at h;grind;rename_i h1;simp only[AV.data.injEq,Ty.int.injEq]at h1;simp only[AXd,AXc,AY1]at h;obtain⟨rfl,h1⟩:=h1;obtain⟨rfl,rfl⟩:=h;exact AYh (fun n=>[Value.int k n]) (eq_of_heq h1).symm;all_goals grind
  |slice e _=>intro vs h;obtain⟨v,hv,h'⟩:=one (.nils e) _ h;subst hv;clear h;have h:=h';unfold Dl at h;split at h;grind;grind;exact⟨none,0,rfl,AXl _,fun h=>absurd rfl h⟩;grind
  |nul e=>intro vs h;obtain⟨v,hv,h'⟩:=one (.nils e) _ h;subst hv;clear h;have h:=h';unfold Dl at h;split at h;grind;grind;rfl;grind
  |mapi j e _=>intro vs h;obtain⟨v,hv,h'⟩:=one .Cr _ h;simp[Dl]at h'
  |prod a b iha ihb=>intro vs h;obtain⟨v1,v2,rfl,h1,h2⟩:=app _ _ _ h;exact⟨v1,v2,rfl,iha _ h1,ihb _ h2⟩
  |arr n e ih=>
   intro vs h;refine⟨by simp[Ty.zero],?_⟩;simp only[zeroCells]at h;have key:∀ (n:Nat) (vs:List Value),Cj (List.replicate n (zeroCells e)).flatten vs=true→rows (Dat w F e) (List.replicate n e.zero) vs:=by
    intro n;induction n with
     |zero=>intro vs h;cases vs with
      |nil=>exact rfl
      |cons v vs=>simp[Cj]at h
     |succ n ihn=>intro vs h;rw[List.replicate_succ,AYi]at h;obtain⟨v1,v2,rfl,h1,h2⟩:=app _ _ _ h;exact⟨v1,v2,rfl,ih _ h1,ihn _ h2⟩
   exact key n vs h
theorem NB{F:Nat→Prop}{t:Ty}{z:Value}(h:Cj (zeroCells t) z.cells.toList=true)(ha:t.isAgg=Om z):CW w F t t.zero z:=by
 have hd:=CN (w:=w) (F:=F) t _ h;unfold CW;split;rename_i hg;rw[hg]at ha;cases z<;>simp[Om]at ha;exact⟨_,rfl,hd⟩;rename_i hg;have hz:z.cells.toList=[z]:=by cases z<;>simp_all [Om,Value.cells]
 grind
end
end Go.Pev
end
section
namespace Go.Pev
open Go.RowKit
def HD(P:Program)(g:FuncId):Prop:=∀ args w,(callFunc g args).run P w = .ok (.enter g args) w
def BV(P:Program)(g:FuncId)(s:Spec):Prop:=
 ∀ R args H fz slot k r,s R args H fz slot k=some r→∃ v e,k v e=some r∧(∀ R' k',s R' args H fz slot k'=k' v e)∧HD P g ∧
  ∀ w F m vals,HI w F m H fz→BD w F m H args vals→Calls P g vals.toArray w fun en w'=>∃ u,en = .returned u∧∃ F' m',BQ w F m H fz w' F' m' (Cy e H) (Ev e fz)∧Rep w' F' m' (Cy e H) v u
def Gm(P:Program)(g:FuncId)(sn:Spec)(s:KS):Prop:=
 ∀ R args H fz slot k kp r,s R args H fz slot k kp=some r →
  (∃ v e,k v e=some r∧(∀ R' k' kp',s R' args H fz slot k' kp'=k' v e)∧∀ R' k',sn R' args H fz slot k'=k' v e) ∨
  (∃ p e,kp p e=some r∧(∀ R' k' kp',s R' args H fz slot k' kp'=kp' p e)∧HD P g ∧
   ∀ w F m vals,HI w F m H fz→BD w F m H args vals→Calls P g vals.toArray w fun en w'=>en = .panicked [Cz p]∧∃ F' m',BQ w F m H fz w' F' m' (Cy e H) (Ev e fz))
def Fs(P:Program)(E:Env):Prop:=∀ g s,E.pan g=some s→Gm P g (E.spec g) s
def ll(P:Program)(op:Op)(ty:TypeId)(ρ:Operand→AV)(H:List Ob)(fz:List Bool)(v:AV)(e:Eff):Prop:=
 ∀ (w:World) (F:Nat→Prop) (m:Mp) (a:Act) (o:Oper) (next:Act→World→Prop) (Q:Exit→Act→World→Prop),o.op=op→o.type=ty→HI w F m H fz→(∀ x,Rep w F m H (ρ x) (a.eval x)) →
  (∀ u w' F' m',BQ w F m H fz w' F' m' (Cy e H) (Ev e fz)→Rep w' F' m' (Cy e H) v u→next (a.put o.dst u) w')→o.wp P a w next Q
section
variable {P:Program} {op:Op} {ty:TypeId} {ρ:Operand→AV} {H:List Ob} {fz:List Bool} {v:AV} {e:Eff}
theorem Bm(h:∀ (w:World) (F:Nat→Prop) (m:Mp) (ρc:Operand→Value) (o:Oper),o.op=op→o.type=ty→HI w F m H fz→(∀ x,Rep w F m H (ρ x) (ρc x)) →
  ∃ u w' F' m',(execOp ρc o).run P w = .ok (.value u) w'∧BQ w F m H fz w' F' m' (Cy e H) (Ev e fz)∧Rep w' F' m' (Cy e H) v u):ll P op ty ρ H fz v e:=by
 intro w F m a o next Q ho ht hi hr hn
 obtain⟨u,w',F',m',h1,h2,h3⟩:=h w F m a.eval o ho ht hi hr;unfold Oper.wp;rw[h1];exact hn u w' F' m' h2 h3
theorem Ef(h:∀ (w:World) (F:Nat→Prop) (m:Mp) (ρc:Operand→Value) (o:Oper),o.op=op→o.type=ty→HI w F m H fz→(∀ x,Rep w F m H (ρ x) (ρc x)) →
  ∃ w' F' m',(execOp ρc o).run P w = .ok .skip w'∧BQ w F m H fz w' F' m' (Cy e H) (Ev e fz)):ll P op ty ρ H fz .Cr e:=by
 intro w F m a o next Q ho ht hi hr hn
 obtain⟨w',F',m',h1,h2⟩:=h w F m a.eval o ho ht hi hr;unfold Oper.wp;rw[h1];exact hn undef w' F' m' h2 (by unfold Rep;trivial)
theorem BB(h:∀ (w:World) (F:Nat→Prop) (m:Mp) (ρc:Operand→Value) (o:Oper),o.op=op→o.type=ty→HI w F m H fz→(∀ x,Rep w F m H (ρ x) (ρc x)) →
  ∃ u,(execOp ρc o).run P w = .ok (.value u) w∧Rep w F m H v u):ll P op ty ρ H fz v {}:=
 Bm fun w F m ρc o ho ht hi hr=>let ⟨u,h1,h2⟩:=h w F m ρc o ho ht hi hr;⟨u,w,F,m,h1,BQ.refl hi,h2⟩
end
def Claim(P:Program)(E:Env)(o:Op):Prop:=
 ∀ (R:Type) (ty:TypeId) (ρ:Operand→AV) (H:List Ob) (fz:List Bool) (slot:Nat) (k:AV→Eff→Option R) (r:R),evalOp P E R o ty ρ H fz slot k=some r →
  ∃ v e,k v e=some r∧(∀ R' (k':AV→Eff→Option R'),evalOp P E R' o ty ρ H fz slot k'=k' v e)∧ll P o ty ρ H fz v e
section
variable {P:Program} {E:Env}
theorem ABS(x:Operand):Claim P E (.move x):=by
 intro R ty ρ H fz slot k r h;simp only[evalOp]at h;split at h;rename_i hx;refine⟨_,_,h,fun R' k'=>by simp[evalOp,hx],BB fun w F m ρc o ho ht hi hr=>⟨ρc x,by simp[execOp,ho],?_⟩⟩;have:=hr x;rw[hx]at this;unfold Rep at this;unfold AOZ;split<;>(unfold Rep;omega)
 rename_i hx;refine⟨_,_,h,fun R' k' => ?_,BB fun w F m ρc o ho ht hi hr=>⟨ρc x,by simp[execOp,ho],hr x⟩⟩;simp only[evalOp]
theorem lS(x:Operand):Claim P E (.assign x):=by
 intro R ty ρ H fz slot k r h;simp only[evalOp]at h;split at h;rename_i hx;refine⟨_,_,h,fun R' k'=>by simp[evalOp,hx],BB fun w F m ρc o ho ht hi hr=>⟨ρc x,by simp[execOp,ho],?_⟩⟩;have:=hr x;rw[hx]at this;unfold Rep at this;unfold AOZ;split<;>(unfold Rep;omega)
 rename_i hx;refine⟨_,_,h,fun R' k' => ?_,BB fun w F m ρc o ho ht hi hr=>⟨ρc x,by simp[execOp,ho],hr x⟩⟩;simp only[evalOp]
theorem Da{w:World}{F:Nat→Prop}{m:Mp}{H:List Ob}{b:Bool}{v:Value}(h:Rep w F m H (.data .bool b) v):v = .bool b:=by unfold Rep CW at h;have h:Dat w F .bool b [v]:=h;simpa [Dat]using h
theorem Bn{w:World}{F:Nat→Prop}{m:Mp}{H:List Ob}{k:IntKind}{n:Int}{v:Value}(h:Rep w F m H (.data (.int k) n) v):v = .int k n:=by unfold Rep CW at h;have h:Dat w F (.int k) n [v]:=h;simpa [Dat]using h
theorem B4{w:World}{F:Nat→Prop}{m:Mp}{H:List Ob}(b:Bool):Rep w F m H (.data .bool b) (.bool b):=by unfold Rep CW;exact rfl
theorem Bd{w:World}{F:Nat→Prop}{m:Mp}{H:List Ob}(k:IntKind)(n:Int):Rep w F m H (.data (.int k) n) (.int k n):=by unfold Rep CW;exact rfl
theorem ABR(c a b:Operand):Claim P E (.pick c a b):=by intro R ty ρ H fz slot k r h;simp only[evalOp,Sf]at h;split at h;rename_i hx;refine⟨_,_,h,fun R' k'=>by simp[evalOp,Sf,hx],BB fun w F m ρc o ho ht hi hr=>⟨ρc a,?_,hr a⟩⟩;have:=Da (hx▸hr c);simp[execOp,ho,this,asBool];rename_i hx;refine⟨_,_,h,fun R' k'=>by simp[evalOp,Sf,hx],BB fun w F m ρc o ho ht hi hr=>⟨ρc b,?_,hr b⟩⟩;have:=Da (hx▸hr c);simp[execOp,ho,this,asBool];grind
theorem re{T:TypeId}{n:Nat}(h:AAO P T=some n):∃ i z,P.info? T=some i∧i.zero=some z∧(∀ u∈z.cells.toList,u.oneCell'=true)∧n=z.cells.size:=by unfold AAO at h;grind
theorem tZ(T:TypeId):Claim P E (.alloc T):=by
 intro R ty ρ H fz slot k r h;simp only[evalOp,Nd]at h;split at h
 ·rename_i t cs hz;split at h
  ·rename_i hf;obtain⟨_,rfl,i,z,hi0,hz0,hok,hsz,_⟩:=CU hz;split at h
   ·rename_i n e ha;refine⟨_,_,h,fun R' k'=>by simp[evalOp,Nd,hz,hf,ha],Bm fun w F m ρc o ho ht hi hr => ?_⟩;have⟨et,hn,hm4,he⟩:t = .arr n e∧0<n∧n≤4294967296∧0<e.size:=by
     unfold AU2 at ha;split at ha;·split at ha;all_goals simp_all
     grind
    subst et;have hrun:(execOp ρc o).run P w = .ok (.value (.pointer (some ⟨w.heap.size,0,none⟩))) (w.alloc (.cells z.cells T)):=by simp[execOp,ho,Instr.alloc,B' hi0 hz0,newVar,newRow]
    have hzd:Dat w F (.arr n e) (List.replicate n e.zero) z.cells.toList:=CN (w:=w) (F:=F) (.arr n e) _ hok;have hzl:=Dat.length (.arr n e) hzd
    have hg:=BQ.new (w':=w.alloc (.cells z.cells T)) hi hf (ob:=.arr T e (List.replicate n e.zero)) trivial (some (w.heap.size,n)) rfl rfl rfl (by simp) (fun b hb=>Below.heap_alloc w _ b hb)
     (fun b c h=>by grind)
     (fun hmono=>⟨he,z.cells,z.cells.toList,heap_alloc_new w _,by simp,by simp only[maxLen];omega,by rw[← AX0,hzl];rfl,
      B8 (fun x _ cs hx=>hx.mono (fun b hb=>Below.heap_alloc w _ _ (hi.lt b hb)) (fun _ h=>h) e) hzd.2,AZJ⟩)
    refine⟨.pointer (some ⟨w.heap.size,0,none⟩),w.alloc (.cells z.cells T),F,_,hrun,hg,?_⟩;unfold Rep;have hlt:=BU (B9 hf).1;rw[show Cy { objs:=[(slot,.arr T e (DD n e.zero))] } H=H.set slot (.arr T e (List.replicate n e.zero))from rfl,Bj hlt,BX];exact⟨AYv,_,rfl,rfl⟩
   rename_i ha;refine⟨_,_,h,fun R' k'=>by simp[evalOp,Nd,hz,hf,ha],Bm fun w F m ρc o ho ht hi hr => ?_⟩;have hrun:(execOp ρc o).run P w = .ok (.value (.pointer (some ⟨w.heap.size,0,none⟩))) (w.alloc (.cells z.cells T)):=by simp[execOp,ho,Instr.alloc,B' hi0 hz0,newVar,newRow]
   have hg:=BQ.new (w':=w.alloc (.cells z.cells T)) hi hf (ob:=.box (zeroCells t)) trivial (some (w.heap.size,0)) rfl rfl rfl (by simp) (fun b hb=>Below.heap_alloc w _ b hb)
    (fun b c h=>by grind)
    (fun _=>⟨w.heap.size,0,z.cells,T,rfl,heap_alloc_new w _,HT _ _ hok,KW _ _ hok⟩)
   refine⟨_,_,F,_,hrun,hg,?_⟩;unfold Rep;have hlt:=BU (B9 hf).1;rw[show Cy { objs:=[(slot,.box (zeroCells t))] } H=H.set slot (.box (zeroCells t))from rfl,Bj hlt,BX];exact⟨_,_,rfl,rfl⟩
  grind
 rename_i hz;split at h;rename_i n hj;split at h;rename_i hf;obtain⟨i,z,hi0,hz0,hone,rfl⟩:=re hj;refine⟨_,_,h,fun R' k'=>by simp[evalOp,Nd,hz,hj,hf],Bm fun w F m ρc o ho ht hi hr => ?_⟩;have hrun:(execOp ρc o).run P w = .ok (.value (.pointer (some ⟨w.heap.size,0,none⟩))) (w.alloc (.cells z.cells T)):=by simp[execOp,ho,Instr.alloc,B' hi0 hz0,newVar,newRow]
 have hg:=BQ.new (w':=w.alloc (.cells z.cells T)) hi hf (ob:=.box (List.replicate z.cells.size .Cr)) trivial (some (w.heap.size,0)) rfl rfl rfl (by simp) (fun b hb=>Below.heap_alloc w _ b hb)
  (fun b c h=>by grind)
  (fun _=>⟨w.heap.size,0,z.cells,T,rfl,heap_alloc_new w _,Dy (by simp) (fun i c v hc _=>by
   rw[AZ9 (AXk hc)];unfold Rep;trivial),hone⟩)
 refine⟨_,_,F,_,hrun,hg,?_⟩;unfold Rep;have hlt:=BU (B9 hf).1;rw[show Cy { objs:=[(slot,.box (List.replicate z.cells.size .Cr))] } H=H.set slot (.box (List.replicate z.cells.size .Cr))from rfl,Bj hlt,BX];exact⟨_,_,rfl,rfl⟩;grind;grind
theorem AKm(T:TypeId)(x:Operand):Claim P E (.box T x):=by
 intro R ty ρ H fz slot k r h;simp only[evalOp,sd]at h;split at h;rename_i n hs;split at h;rename_i vs hv;split at h;rename_i hd;split at h;rename_i hf;refine⟨_,_,h,fun R' k'=>by simp[evalOp,sd,hs,hv,hd,hf],Bm fun w F m ρc o ho ht hi hr => ?_⟩;have hrun:(execOp ρc o).run P w = .ok (.value (.pointer (some ⟨w.heap.size,0,none⟩))) (w.alloc (.cells (ρc x).cells T)):=by simp[execOp,ho,Instr.box,newVar,newRow]
 have hrx:=cells?_ok hv (hr x);have h1:=cells?_one hv (hr x)
 have hg:=BQ.new (w':=w.alloc (.cells (ρc x).cells T)) hi hf (ob:=.box vs) trivial (some (w.heap.size,0)) rfl rfl rfl (by simp) (fun b hb=>Below.heap_alloc w _ b hb)
  (fun b c h=>by grind)
  (fun hmono=>⟨w.heap.size,0,(ρc x).cells,T,rfl,heap_alloc_new w _,Dy (Ba hrx) fun i c v hc hv=>by
    obtain⟨v',hv',hr'⟩:=C' hrx hc
    grind,h1⟩)
 refine⟨_,_,F,_,hrun,hg,?_⟩;unfold Rep;have hlt:=BU (B9 hf).1;rw[show Cy { objs:=[(slot,.box vs)] } H=H.set slot (.box vs)from rfl,Bj hlt,BX];exact⟨_,_,rfl,rfl⟩;grind;grind;grind;grind
theorem To(off:Nat):∀ (l:List Value) (n:Nat) (us:Array Value),off+n+l.length≤us.size →
  ((l.zipIdx n).foldl (fun cs (p:Value×Nat)=>cs.setIfInBounds (off+p.2) p.1) us).toList=us.toList.take (off+n)++l++us.toList.drop (off+n+l.length):=by
 intro l;induction l with
  |nil=>simp
  |cons v l ih=>
   intro n us h;simp only[AXg]at h;simp only[List.zipIdx_cons,AYI];rw[ih (n+1) _ (by grind)];have hlt:off+n<us.toList.length:=by grind
   rw[Array.toList_setIfInBounds,List.set_eq_take_append_cons_drop,AXp hlt];have ht:(us.toList.take (off+n)).length=off+n:=by grind
   have e1:(us.toList.take (off+n)++v::us.toList.drop (off+n+1)).take (off+(n+1))=us.toList.take (off+n)++[v]:=by grind
   have e2:(us.toList.take (off+n)++v::us.toList.drop (off+n+1)).drop (off+(n+1)+l.length)=us.toList.drop (off+n+(l.length+1)):=by rw[List.drop_append,AYa (by omega),ht,AX2,show off+(n+1)+l.length-(off+n)=l.length+1 from by omega,List.drop_succ_cons,AZA];grind
   simp_all
theorem kf{w:World}{F:Nat→Prop}{m:Mp}{H:List Ob}{ρ:Operand→AV}{ρc:Operand→Value}(hr:∀ x,Rep w F m H (ρ x) (ρc x)){pl pl':Nat→Option (Nat×Nat)}(hpl:∀ i p,pl i=some p→pl' i=some p):
  ∀ (ps:List (Nat×Operand)) {cs out:List AV} {us:Array Value},FA pl (ps.map fun p=>(p.1,ρ p.2)) cs=some out→BD w F m H cs us.toList→(∀ x∈us.toList,x.oneCell'=true) →
   ∃ us':Array Value,Instr.fill pl' us (ps.map fun p=>(p.1,ρc p.2))=some us'∧BD w F m H out us'.toList∧∀ x∈us'.toList,x.oneCell'=true:=by
 intro ps;induction ps with
  |nil=>intro cs out us h h1 h2;simp only[AZc,FA,AXa]at h;subst h;exact⟨us,rfl,h1,h2⟩
  |cons p ps ih=>
   intro cs out us h h1 h2;obtain⟨i,x⟩:=p;simp only[AX4,FA]at h;split at h;cases h;rename_i off size hp;split at h;cases h;rename_i vs hv;split at h;cases h;rename_i hd;split at h;cases h;rename_i cs1 hc;simp only[AXc]at hd;have hrx:=cells?_ok hv (hr x);have h1x:=cells?_one hv (hr x);obtain⟨hle,hr1⟩:=Je hc h1 hrx;have hlen:=Ba hrx;have hlen2:=Ba h1;have hsz:(ρc x).cells.size=size:=by grind
   have hfold:((ρc x).cells.zipIdx.foldl (fun cs (c,j)=>cs.setIfInBounds (off+j) c) us).toList=us.toList.take off++(ρc x).cells.toList++us.toList.drop (off+vs.length):=by have:=To off (ρc x).cells.toList 0 us (by grind);rw[← Array.foldl_toList,Array.toList_zipIdx,this];grind
   obtain⟨us',e1,e2,e3⟩:=ih (us:=(ρc x).cells.zipIdx.foldl (fun cs (c,j)=>cs.setIfInBounds (off+j) c) us) h (by grind) (by grind)
   refine⟨us',?_,e2,e3⟩;simp only[AX4,Instr.fill,hpl _ _ hp];grind
end
end Go.Pev
end
section
namespace Go.Pev
open Go.RowKit
section
variable {P:Program}
theorem uQ{w w':World}{F F':Nat→Prop}{m m':Mp}{H H':List Ob}(h:∀ {a:AV} {v:Value},Rep w F m H a v→Rep w' F' m' H' a v){cs:List AV}{us:List Value}(hr:BD w F m H cs us):BD w' F' m' H' cs us:=by refine Dy (Ba hr) fun i c v hc hv => ?_;obtain⟨v',hv',hr'⟩:=C' hr hc;grind
theorem dh{H:List Ob}{fz:List Bool}{id:Nat}{T:TypeId}{tgt:Nat}{is:List Int}(h:H[id]? = some (.prs T tgt is)):owned H fz id:=by simp only[owned,Cd];grind
theorem sP{H:List Ob}{fz:List Bool}{slot id:Nat}{T:TypeId}{tgt:Nat}{is:List Int}(hf:Bc H fz slot=true)(ho:H[id]? = some (.prs T tgt is)):slot≠id:=by rintro rfl;rw[(B9 hf).1]at ho;cases ho
theorem Tx{T e:TypeId}(h:cellAt P T=some e):P.underlying T=some (.slice e)∧∃ i z,P.info? e=some i∧i.zero=some z∧i.size=1∧z.cells.size=1∧i.bytes≤1024:=by unfold cellAt at h;grind
theorem bE{w:World}{F:Nat→Prop}{m:Mp}{H:List Ob}{fz:List Bool}(hi:HI w F m H fz){slot:Nat}(hf:Bc H fz slot=true)(T:TypeId)(tgt:Nat)(a:Option Addr):
  ∃ m',BQ w F m H fz w F m' (H.set slot (.prs T tgt [])) fz∧Rep w F m' (H.set slot (.prs T tgt [])) (.own slot) (.slice a 0 0):=by have hg:=BQ.new (w':=w) hi hf (ob:=.prs T tgt []) trivial none rfl rfl rfl (AXl _) (fun _ _=>rfl) (fun b c h=>by cases h) (fun _=>(rfl:([]:List Int)=[]));refine⟨_,hg,?_⟩;unfold Rep;have hlt:=BU (B9 hf).1;rw[Bj hlt,BX];exact⟨a,rfl⟩
theorem Qj{w:World}{F:Nat→Prop}{m:Mp}{H:List Ob}{fz:List Bool}(hi:HI w F m H fz){slot:Nat}(hf:Bc H fz slot=true){T:TypeId}{tgt:Nat}{is:List Int}{vs:Array Value}{cap:Nat}
  {w':World} (hb:w'.heap[w.heap.size]? = some (.cells vs T (0,0))) (h1:w'.os=w.os) (h2:w'.tape=w.tape) (h3:w'.output=w.output) (hsz:w.heap.size≤w'.heap.size) (hk:∀ b,b<w.heap.size→w'.heap[b]? = w.heap[b]?)
  (hcap:is.length≤cap) (hmax:cap≤maxLen) (hvs:vs.size=cap) {us:List Value} (hr:BD w F m H (GD tgt is) us) (hone:∀ u∈us,u.oneCell'=true) (htake:vs.toList.take us.length=us) :
  ∃ m',BQ w F m H fz w' F m' (H.set slot (.prs T tgt is)) fz∧Rep w' F m' (H.set slot (.prs T tgt is)) (.own slot) (.slice (some ⟨w.heap.size,0,none⟩) is.length cap):=by
 have hg:=BQ.new (w':=w') hi hf (ob:=.prs T tgt is) trivial (some (w.heap.size,cap)) h1 h2 h3 hsz hk (fun b c h=>by grind)
  (fun hmono=>⟨vs,us,hb,hcap,hmax,hvs,uQ hmono hr,hone,htake⟩)
 refine⟨_,hg,?_⟩;unfold Rep;have hlt:=BU (B9 hf).1;rw[Bj hlt,BX];rfl
theorem XT(tgt:Nat)(is:List Int):(GD tgt is).length=is.length:=by simp[GD]
theorem ANJ(tgt:Nat)(is js:List Int):GD tgt (is++js)=GD tgt is++GD tgt js:=by simp[GD]
end
end Go.Pev
end
section
namespace Go.Pev
open Go.RowKit
section
variable {w w':World} {F:Nat→Prop} {m:Mp} {H:List Ob} {fz:List Bool}
theorem Hv{α:Type}{xs:List α}{k:Nat}{y:α}(h:xs[k]? = some y):k<xs.length:=by grind
theorem R6{id k:Nat}{T:RK}{e:TypeId}{t:Ty}{xs:List (List t.den)}{ver:Nat}{out:Option Nat}(ho:H[id]? = some (.rows T e t xs ver out))(hun:fz.getD id false=false)(hk:k<List.length (α:=List t.den) xs):owned H fz (.r id k):=by simp only[owned];grind
theorem Xn{id:Nat}{T:RK}{e:TypeId}{t:Ty}{xs:List (List t.den)}{ver:Nat}{out:Option Nat}(ho:H[id]? = some (.rows T e t xs ver out))(hun:fz.getD id false=false):owned H fz id:=by simp only[owned,Cd];grind
def AGv(m:Mp)(x:Ix)(l:Option (Nat×Nat)):Mp:=fun y=>if y=x then l else m y
theorem Hk(m:Mp)(x:Ix)(l:Option (Nat×Nat)):AGv m x l x=l:=by simp[AGv]
theorem CX{m:Mp}{x y:Ix}{l:Option (Nat×Nat)}(h:y≠x):AGv m x l y=m y:=by simp[AGv,h]
theorem BQ.AWw(hi:HI w F m H fz){slot:Nat}(hs:Bc H fz slot=true){T:RK}{e:TypeId}{t:Ty}{n:Nat}(l:Option (Nat×Nat))
  (h1:w'.os=w.os) (h2:w'.tape=w.tape) (h3:w'.output=w.output) (hsz:w.heap.size≤w'.heap.size) (hb:∀ b,b<w.heap.size→w'.heap[b]? = w.heap[b]?)
  (hl:∀ b c,l=some (b,c)→w.heap.size≤b) (hpos:0<t.size)
  (hob:ObI w' F m H (.rows T e t (List.replicate n ([]:List t.den)) 0 none) l) (hhd:∀ k,k<n→∃ b cap a,l=some (b,cap)∧LU w' T b k (.slice a 0 0)) :
  BQ w F m H fz w' F (Nm m slot l fun _=>none) (H.set slot (.rows T e t (List.replicate n ([]:List t.den)) 0 none)) fz:=by
 obtain⟨hs1,hs2⟩:=B9 hs;have hlt:=BU hs1;have hcell:∀ b,F b→w'.heap[b]? = w.heap[b]? := fun b hF=>hb b (hi.lt b hF);have hgs:(H.set slot (.rows T e t (List.replicate n ([]:List t.den)) 0 none))[slot]? = some (.rows T e t (List.replicate n ([]:List t.den)) 0 none):=Bj hlt;have hcomp:C5 H (H.set slot (.rows T e t (List.replicate n ([]:List t.den)) 0 none)) m (Nm m slot l fun _=>none):=by
  intro i o hio hf;have hne:i≠slot:=by grind
  rcases C5.refl H m i o hio hf with h|⟨hd,o',h4,h5,_⟩
  grind;exact .inr ⟨hd,o',by grind,h5,HU hne,fun _ _ k=>HU hne⟩
 have hown:∀ x:Ix,owned (H.set slot (.rows T e t (List.replicate n ([]:List t.den)) 0 none)) fz x→(x.id≠slot∧owned H fz x)∨x = .o slot∨∃ k,x = .r slot k:=fun x hx=>by
  by_cases hid:x.id=slot;cases x with
   |o i=>exact .inr (.inl (AYh Ix.o hid))
   |r i k=>have hid:i=slot:=hid;grind
  exact .inl ⟨hid,(DJ (Bi hid)).1 hx⟩
 have src:∀ (x:Ix) (b c:Nat),owned (H.set slot (.rows T e t (List.replicate n ([]:List t.den)) 0 none)) fz x→Nm m slot l (fun _=>none) x=some (b,c)→(x.id≠slot∧owned H fz x∧m x=some (b,c))∨(x = .o slot∧l=some (b,c)):=by
  intro x b c hx hm;rcases hown x hx with⟨h,h'⟩|rfl|⟨k,rfl⟩
  rw[HU h]at hm;grind;rw[Ke]at hm;grind;rw[iN]at hm;cases hm
 refine⟨⟨h1,h2,h3,hsz,fun b h _=>hb b h,fun _ h=>h,fun _ h=>.inl h,?_,hcomp⟩,⟨?_,?_,?_,?_,?_,?_,fun b h=>AYl (hi.lt b h) hsz,hi.glo.mono hcell (fun _ h=>h),by simpa using hi.len⟩⟩;grind;intro i o hio;by_cases hne:i=slot;subst hne;rw[hgs]at hio;cases hio;rw[Ke];exact hob;rw[Bi hne]at hio;rw[HU (x:=.o i) hne];exact ObI.mono hcell (fun _ h=>h) hcomp (fun _ _ b c _ hlt=>hb b hlt) (hi.obj i o hio);intro i;by_cases hne:i=slot;subst hne;intro T' e' t' xs ver out hio k ys hk;rw[hgs]at hio;cases hio;have hkn:k<n:=by grind
 have hys:ys=[]:=by grind
 subst hys;rw[iN];obtain⟨b,cap,a,a1,a2⟩:=hhd k hkn;exact⟨⟨hpos,rfl⟩,fun _=>⟨b,cap,_,Ke.trans a1,a2,a,rfl⟩⟩;exact Co.mono hcell (fun _ h=>h) hcomp (Bi hne) (fun x hx=>HU (by omega)) (fun _ _ _ b c _ hlt=>hb b hlt) (hi.row i);intro i T' e' t' xs ver out hio hf x hx ht b c hm;by_cases hne:i=slot;grind;rw[Bi hne]at hio;rw[HU (by omega)]at hm;exact hi.rfz i T' e' t' xs ver out hio hf x hx ((DH (by grind)).1 ht) b c hm;intro x y b c b' c' hx hy hxy hmx hmy;rcases src x b c hx hmx with⟨_,p1,p2⟩|⟨rfl,p2⟩
 rcases src y b' c' hy hmy with⟨_,q1,q2⟩|⟨rfl,q2⟩
 exact hi.sep x y b c b' c' p1 q1 hxy p2 q2;have:=hi.IT p1 p2;grind;rcases src y b' c' hy hmy with⟨_,q1,q2⟩|⟨rfl,q2⟩
 have:=hi.IT q1 q2;grind;grind;intro x b c hx hm hF;rcases src x b c hx hm with⟨_,p1,p2⟩|⟨_,p2⟩
 exact hi.off x b c p1 p2 hF;have:=hl b c p2;have:=hi.lt b hF;omega;intro i T' t' xs b c hio hf hm;by_cases hne:i=slot;grind;rw[Bi hne]at hio;rw[HU (x:=.o i) hne]at hm;exact hi.froz i T' t' xs b c hio hf hm
theorem Hdr.out{w:World}{K:RK}{n k:Nat}{b cap:Nat}(h:Hdr w K n none b cap)(hk:k<n):Hdr w K n (some k) b cap:=by
 cases K with
  |arr T=>exact h
  |map j ks=>obtain⟨ms,clock,e1,e2,e3,e4,_⟩:=h;exact⟨ms,clock,e1,e2,e3,.inl (e4.resolve_right fun h=>by cases h.1),fun k' h=>by grind⟩
theorem BQ.AWl(hi:HI w F m H fz){id k:Nat}{T:RK}{e:TypeId}{t:Ty}{xs xs1:List (List t.den)}{ver:Nat}(ho:H[id]? = some (.rows T e t xs ver none))(hun:fz.getD id false=false)(l:Option (Nat×Nat))
  {ys:List t.den} (hxk:xs1[k]? = some ys) (hxo:∀ k',k'≠k→xs1[k']? = xs[k']?) (hxa:T.JJ=true→xs.length=xs1.length)
  (hhd:∀ b cap,m id=some (b,cap)→Hdr w T xs.length none b cap→Hdr w T xs1.length (some k) b cap) (hhn:T.JJ=true→xs=[]→xs1=[])
  (hl:∀ b c,l=some (b,c)→(∃ c0,owned H fz (.r id k)∧m (.r id k)=some (b,c0))∨w.heap.size≤b)
  (h1:w'.os=w.os) (h2:w'.tape=w.tape) (h3:w'.output=w.output) (hsz:w.heap.size≤w'.heap.size) (hb:∀ b,b<w.heap.size→(∀ c,owned H fz (.r id k)→m (.r id k)≠some (b,c))→w'.heap[b]? = w.heap[b]?)
  (hob:(∀ {d:t.den} {cs:List Value},Dat w F t d cs→Dat w' F t d cs)→ObI w' F m H (.arr e t ys) l) :
  BQ w F m H fz w' F (AGv m (.r id k) l) (H.set id (.rows T e t xs1 (ver+1) (some k))) fz:=by
 have hlt:=BU ho;have hgs:(H.set id (.rows T e t xs1 (ver+1) (some k)))[id]? = some (.rows T e t xs1 (ver+1) (some k)):=Bj hlt;have hcell:∀ b,F b→w'.heap[b]? = w.heap[b]? := fun b ha=>hb b (hi.lt _ ha) fun c hor hc=>hi.off _ _ c hor hc ha;have hne:∀ {x:Ix},there H x→x≠.r id k→∀ b c,m x=some (b,c)→b<w.heap.size→w'.heap[b]? = w.heap[b]? := fun ht hx b c hm hlt'=>hb b hlt' fun c' hor hc'=>hi.neX hor hc' ht hm hx rfl;have hcomp:C5 H (H.set id (.rows T e t xs1 (ver+1) (some k))) m (AGv m (.r id k) l):=by
  intro i o hio hf;by_cases hni:i=id;subst hni;rw[ho]at hio;cases hio;refine .inr ⟨by simp,_,hgs,⟨rfl,hxa,.inl (Nat.lt_succ_self _)⟩,CX (by simp),fun _ hv => ?_⟩;simp only[PQ]at hv;omega;rcases C5.refl H m i o hio hf with h|⟨hd,o',h4,h5,_⟩
  grind;exact .inr ⟨hd,o',by grind,h5,CX (by simp),fun _ _ k'=>CX (by grind)⟩
 have hdat:∀ {d:t.den} {cs:List Value},Dat w F t d cs→Dat w' F t d cs:=fun h=>h.mono hcell (fun _ h=>h) t;have hlow:∀ k',k'≠k→k'<xs1.length→k'<xs.length:=fun k' hk hl'=>by have:=hxo k' hk;grind
 have hown:∀ x:Ix,x≠.r id k→owned (H.set id (.rows T e t xs1 (ver+1) (some k))) fz x→owned H fz x:=fun x hxk hx=>by
  by_cases hid:x.id=id;cases x with
   |o i=>have hid:i=id:=hid;subst hid;exact Xn ho hun
   |r i k'=>have hid:i=id:=hid;subst hid;simp only[owned]at hx;rw[hgs]at hx;exact R6 ho hun (hlow k' (by grind) hx.1)
  exact(DJ (Bi hid)).1 hx
 refine⟨⟨h1,h2,h3,hsz,fun b h hn=>hb b h fun c hor hc=>hn _ c hor hc,fun _ h=>h,fun _ h=>.inl h,?_,hcomp⟩,⟨?_,?_,?_,?_,?_,?_,fun b h=>AYl (hi.lt b h) hsz,hi.glo.mono hcell (fun _ h=>h),by simpa using hi.len⟩⟩;intro x b c hx hm;by_cases hxk:x = .r id k;subst hxk;rw[Hk]at hm;grind;rw[CX hxk]at hm;grind;intro i o hio;rw[CX (by simp)];by_cases hni:i=id;subst hni;rw[hgs]at hio;cases hio;obtain⟨h4,h5⟩:=hi.obj i _ ho;refine⟨h4,?_⟩;cases hm:m i with
  |none=>grind
  |some p=>obtain⟨b,cap⟩:=p;rw[hm]at h5;exact Hdr.mono (fun hl'=>hne (x:=.o i) ⟨_,ho,by simp,by simp⟩ (by simp) b cap hm hl') (hhd b cap hm h5)
 rw[Bi hni]at hio;exact ObI.mono hcell (fun _ h=>h) hcomp (fun n1 n2 b c hm hlt'=>hne (x:=.o i) ⟨_,hio,n1,n2⟩ (by simp) b c hm hlt') (hi.obj i o hio);intro i;by_cases hni:i=id;subst hni;intro T' e' t' xs' ver' out hio k' ys' hk';rw[hgs]at hio;cases hio;by_cases hkk:k'=k;subst hkk;rw[hxk]at hk';cases hk';rw[Hk];refine⟨?_,fun h=>absurd rfl h⟩;obtain⟨q1,q2⟩:=hob hdat;exact⟨q1,q2⟩;rw[hxo k' hkk]at hk';have hlt':=Hv hk';obtain⟨q1,q2⟩:=hi.row i T e t xs ver none ho k' ys' hk';have hth:there H (.r i k'):=by simp only[there];grind
 rw[CX (by grind)];refine⟨ObI.mono hcell (fun _ h=>h) hcomp (fun _ _ b c hm hl'=>hne hth (by grind) b c hm hl') q1,fun _ => ?_⟩;obtain⟨b,cap,u,a1,a2,a3⟩:=q2 (by simp);exact⟨b,cap,u,(CX (by simp)).trans a1,a2.mono (hne (x:=.o i) ⟨_,ho,by simp,by simp⟩ (by simp) b cap a1),a3⟩;exact Co.mono hcell (fun _ h=>h) hcomp (Bi hni) (fun x hx=>CX (by rintro rfl;exact hni hx.symm)) (fun x hx ht b c hm hl'=>hne ht (by rintro rfl;exact hni hx.symm) b c hm hl') (hi.row i);intro i T' e' t' xs' ver' out hio hf x hx ht b c hm;by_cases hni:i=id;grind;rw[Bi hni]at hio;rw[CX (by rintro rfl;exact hni hx.symm)]at hm;exact hi.rfz i T' e' t' xs' ver' out hio hf x hx ((DH (by grind)).1 ht) b c hm;intro x y b c b' c' hx hy hxy hmx hmy;by_cases hxk:x = .r id k;subst hxk;rw[Hk]at hmx;rw[CX (AYm hxy)]at hmy;rcases hl b c hmx with⟨c0,hor,h⟩|h;exact hi.sep _ y b c0 b' c' hor (hown y (AYm hxy) hy) hxy h hmy;have:=hi.IT (hown y (AYm hxy) hy) hmy;omega;rw[CX hxk]at hmx;by_cases hyk:y = .r id k;subst hyk;rw[Hk]at hmy;rcases hl b' c' hmy with⟨c0,hor,h⟩|h;exact hi.sep x _ b c b' c0 (hown x hxk hx) hor hxy hmx h;have:=hi.IT (hown x hxk hx) hmx;omega;rw[CX hyk]at hmy;exact hi.sep x y b c b' c' (hown x hxk hx) (hown y hyk hy) hxy hmx hmy;intro x b c hx hm hF;by_cases hxk:x = .r id k;subst hxk;rw[Hk]at hm;rcases hl b c hm with⟨c0,hor,h⟩|h;exact hi.off _ b c0 hor h hF;have:=hi.lt b hF;omega;rw[CX hxk]at hm;exact hi.off x b c (hown x hxk hx) hm hF;intro i T' t' xs' b c hio hf hm;have hni:i≠id:=by grind
 rw[Bi hni]at hio;rw[CX (by simp)]at hm;exact hi.froz i T' t' xs' b c hio hf hm
theorem BQ.AWs(hi:HI w F m H fz){id k:Nat}{T T1:RK}{e:TypeId}{t:Ty}{xs:List (List t.den)}{ver:Nat}{ys:List t.den}(ho:H[id]? = some (.rows T e t xs ver (some k)))(hun:fz.getD id false=false)(hk:xs[k]? = some ys)(hTT:T.JJ=T1.JJ)
  {b cap:Nat} (hm:m id=some (b,cap)) {u:Value} (hu:Bq (some (.arr e t ys)) (m (.r id k)) u)
  (h1:w'.os=w.os) (h2:w'.tape=w.tape) (h3:w'.output=w.output) (hsz:w'.heap.size=w.heap.size) (hho:∀ k',k'≠b→w'.heap[k']? = w.heap[k']?)
  (hhd:Hdr w T xs.length (some k) b cap→Hdr w' T1 xs.length none b cap∧LU w' T1 b k u) (hco:∀ k' v,k'≠k→LU w T b k' v→LU w' T1 b k' v) :
  BQ w F m H fz w' F m (H.set id (.rows T1 e t xs ver none)) fz:=by
 have hlt:=BU ho;have hkl:=Hv hk;have hor:=Xn ho hun;have hgs:(H.set id (.rows T1 e t xs ver none))[id]? = some (.rows T1 e t xs ver none):=Bj hlt;have hcell:∀ b,F b→w'.heap[b]? = w.heap[b]? := fun k' ha=>hho k' (by rintro h;exact hi.off _ b cap hor hm (h▸ha));have hne:∀ {x:Ix},there H x→x≠.o id→∀ b' c,m x=some (b',c)→w'.heap[b']? = w.heap[b']? := fun ht hx b' c hm'=>hho b' (hi.neX hor hm ht hm' hx);have hcomp:C5 H (H.set id (.rows T1 e t xs ver none)) m m:=by
  intro i o hio hf;by_cases hni:i=id;subst hni;rw[ho]at hio;cases hio;exact .inr ⟨by simp,_,hgs,⟨hTT,fun _=>rfl,.inr ⟨rfl,rfl⟩⟩,rfl,fun _ _ _=>rfl⟩
  ·rcases C5.refl H m i o hio hf with h|⟨hd,o',h4,h5,_⟩
   all_goals grind
 have hown:∀ x:Ix,owned (H.set id (.rows T1 e t xs ver none)) fz x→owned H fz x:=fun x hx=>by
  by_cases hid:x.id=id;cases x with
   |o i=>have hid:i=id:=hid;grind
   |r i k'=>have hid:i=id:=hid;subst hid;simp only[owned]at hx;rw[hgs]at hx;exact R6 ho hun hx.1
  exact(DJ (Bi hid)).1 hx
 obtain⟨hz0,hz1⟩:=hi.obj id _ ho;rw[hm]at hz1;obtain⟨hz2,hz3⟩:=hhd hz1;refine⟨⟨h1,h2,h3,AZb hsz.symm,fun b' h hn=>hho b' (by grind),fun _ h=>h,fun _ h=>.inl h,fun x b' c hx hm'=>.inl ⟨x,c,hown x hx,hm'⟩,hcomp⟩,⟨?_,?_,?_,?_,?_,?_,fun b' h=>by rw[hsz];exact hi.lt b' h,hi.glo.mono hcell (fun _ h=>h),by simpa using hi.len⟩⟩;intro i o hio;by_cases hni:i=id;subst hni;rw[hgs]at hio;cases hio;refine⟨hz0,?_⟩;grind;rw[Bi hni]at hio;exact ObI.mono hcell (fun _ h=>h) hcomp (fun n1 n2 b' c hm' _=>hne (x:=.o i) ⟨_,hio,n1,n2⟩ (by grind) b' c hm') (hi.obj i o hio);intro i;by_cases hni:i=id;subst hni;intro T' e' t' xs' ver' out hio k' ys' hk';rw[hgs]at hio;cases hio;have hlt':=Hv hk';obtain⟨q1,q2⟩:=hi.row i T e t xs ver (some k) ho k' ys' hk';have hth:there H (.r i k'):=by simp only[there];grind
 refine⟨ObI.mono hcell (fun _ h=>h) hcomp (fun _ _ b' c hm' _=>hne hth (by simp) b' c hm') q1,fun _ => ?_⟩;by_cases hkk:k'=k;grind;obtain⟨b2,cap2,u2,a1,a2,a4⟩:=q2 (by grind);grind;exact Co.mono hcell (fun _ h=>h) hcomp (Bi hni) (fun _ _=>rfl) (fun x hx ht b' c hm' _=>hne ht (by rintro rfl;exact hni hx.symm) b' c hm') (hi.row i);intro i T' e' t' xs' ver' out hio hf x hx ht b' c hm';by_cases hni:i=id;grind;rw[Bi hni]at hio;exact hi.rfz i T' e' t' xs' ver' out hio hf x hx ((DH (by grind)).1 ht) b' c hm';exact fun x y b' c' b2 c2 hx hy=>hi.sep x y b' c' b2 c2 (hown x hx) (hown y hy);exact fun x b' c' hx=>hi.off x b' c' (hown x hx);intro i T' t' xs' b' c hio hf hm';have hni:i≠id:=by grind
 rw[Bi hni]at hio;exact hi.froz i T' t' xs' b' c hio hf hm'
theorem BQ.put(hi:HI w F m H fz){id k:Nat}{T e:TypeId}{t:Ty}{xs:List (List t.den)}{ver:Nat}{ys:List t.den}(ho:H[id]? = some (.rows (.arr T) e t xs ver (some k)))(hun:fz.getD id false=false)(hk:xs[k]? = some ys)
  {b cap:Nat} (hm:m id=some (b,cap)) {vs vs':Array Value} (hw:w.heap[b]? = some (.cells vs T (0,0))) {u:Value} (hu:Bq (some (.arr e t ys)) (m (.r id k)) u)
  (h1:w'.os=w.os) (h2:w'.tape=w.tape) (h3:w'.output=w.output) (hsz:w'.heap.size=w.heap.size) (hho:∀ k',k'≠b→w'.heap[k']? = w.heap[k']?) (hhb:w'.heap[b]? = some (.cells vs' T (0,0))) (hvs:vs'.toList=vs.toList.set k u) :
  BQ w F m H fz w' F m (H.set id (.rows (.arr T) e t xs ver none)) fz:=by
 have hvz:vs'.size=vs.size:=by rw[← AX0,hvs,AZN,AX0]
 refine BQ.AWs hi ho hun hk rfl hm hu h1 h2 h3 hsz hho ?_ ?_;rintro⟨vs1,e1,e2,e3,e4,e5⟩;rw[hw]at e1;cases e1;refine⟨⟨_,hhb,e2,e3,hvz.trans e4,fun v hv => ?_⟩,_,hhb,?_⟩;rw[hvs]at hv;rcases List.mem_or_eq_of_mem_set hv with h|rfl;grind;exact Bq.one hu;grind;rintro k' v hkk ⟨vs2,a2,a3⟩;rw[hw]at a2;cases a2;refine⟨_,hhb,?_⟩;grind
theorem pZ(hi:HI w F m H fz){id k:Nat}{T:RK}{e:TypeId}{t:Ty}{xs:List (List t.den)}{ver:Nat}(ho:H[id]? = some (.rows T e t xs ver none))(hk:k<List.length (α:=List t.den) xs):
  ∃ b cap u,m id=some (b,cap)∧LU w T b k u∧Rep w F m H (.rowp id k ver) u:=by have hys:xs[k]? = some xs[k]:=AXj hk;obtain⟨_,h2⟩:=hi.row id T e t xs ver none ho k _ hys;obtain⟨b,cap,u,a1,a2,a4⟩:=h2 (by simp);refine⟨b,cap,u,a1,a2,?_⟩;unfold Rep;rw[ho];exact⟨Bq.one a4,AXl _,fun _=>.inl ⟨_,hys,a4⟩⟩
end
end Go.Pev
end
section
namespace Go.Pev
open Go.RowKit
section
variable {P:Program} {E:Env}
theorem info_of_underlying{T:TypeId}{d:TypeDesc}(h:P.underlying T=some d):∃ i,P.info? T=some i:=by unfold Program.underlying at h;grind
theorem UQ{n:Nat}{T:TypeId}{t:Ty}(h:UR P n T=some t):∃ d,P.underlying T=some d:=by
 cases n with
  |zero=>simp[UR]at h
  |succ n=>simp only[UR]at h;grind
theorem mapM_some{α β:Type}{f:α→Option β}:∀ {l:List α} {ys:List β},l.mapM f=some ys→∀ x∈l,∃ y,f x=some y:=by
 intro l;induction l with
  |nil=>simp
  |cons a l ih=>intro ys h x hx;rw[List.mapM_cons]at h;simp only[bind,AYR,pure]at h;grind
theorem sY{T:TypeId}{t:Ty}{fs:Array Field}(ht:iO P T=some t)(hu:P.underlying T=some (.struct fs)):∀ f∈fs.toList,∃ i,P.info? f.type=some i:=by
 have gen:∀ n,UR P (n+1) T=some t→∃ ts,fs.toList.mapM (fun f=>UR P n f.type)=some ts:=by intro n h;simp only[UR,hu,AXm]at h;grind
 obtain⟨ts,h1⟩:=gen 11 ht;intro f hf;obtain⟨t',h2⟩:=mapM_some h1 f hf;obtain⟨d,h3⟩:=UQ h2;exact info_of_underlying h3
theorem run_places(w:World):∀ (l:List Field),(∀ f∈l,∃ i,P.info? f.type=some i) →
  (l.mapM (fun f=>do pure (f.offset,← sizeOf f.type):Field→Sem (Nat×Nat))).run P w = .ok (l.map fun f=>(f.offset,(CD P f.type).getD 0)) w:=by
 intro l;induction l with
  |nil=>simp
  |cons f l ih=>intro h;obtain⟨i,hi⟩:=h f (by simp);rw[List.mapM_cons];have:=ih fun g hg=>h g (by simp[hg]);simp only[Sem.run_bind,run_sizeOf hi,Result.andThen_ok,Sem.run_pure,this,AX4,CD,hi,AY5,AX5]
theorem ya{T:TypeId}{cs:List AV}{fs:Array Field}(h:ANE P T=some cs)(hu:P.underlying T=some (.struct fs)):
  ∃ i z,P.info? T=some i∧i.zero=some z∧(∀ u∈z.cells.toList,u.oneCell'=true)∧(∀ f∈fs.toList,∃ i,P.info? f.type=some i)∧cs=List.replicate z.cells.toList.length .Cr:=by unfold ANE at h;split at h;rename_i i fs' hi hu';rw[hu]at hu';cases hu';split at h;rename_i z hz;split at h;rename_i hok;cases h;rw[AXd,AXy,AXy]at hok;refine⟨i,z,hi,hz,hok.1,fun f hf => ?_,by simp⟩;have:=hok.2 f hf;rw[AYc]at this;omega;grind;grind;grind
theorem fg{w:World}{F:Nat→Prop}{m:Mp}{H:List Ob}:∀ vs:List Value,BD w F m H (List.replicate vs.length .Cr) vs
 |[]=>by simp[BD]
 |v::vs=>by rw[AXg,List.replicate_succ];unfold BD;exact⟨v,vs,rfl,by unfold Rep;trivial,fg vs⟩
theorem tX(T:TypeId)(parts:Array (Nat×Operand)):Claim P E (.build T parts):=by
 intro R ty ρ H fz slot k r h;simp only[evalOp,LH]at h;split at h;rename_i t cs hz;obtain⟨hty,rfl,i,z,hi0,hz0,hok,hsz,hza⟩:=CU hz;split at h;rename_i fs hu;split at h;rename_i cs' hb;refine⟨_,_,h,fun R' k'=>by simp only[evalOp,LH,hz,hu,hb],BB fun w F m ρc o ho ht hi hr => ?_⟩;have hpl:∀ (i:Nat) (p:Nat×Nat),(match fs[i]? with
   |some f=>(CD P (Field.type f)).map fun n=>(Field.offset f,n)
   |none=>none)=some p→(fs.map fun f=>(f.offset,(CD P f.type).getD 0))[i]? = some p:=by
  intro i p hp
  split at hp
  ·rename_i f hf
   simp only[AXm]at hp
   grind
  grind
 obtain⟨us,h1,h2,h3⟩:=kf hr hpl parts.toList hb (HT _ _ hok) (KW _ _ hok);refine⟨.agg us,?_,?_⟩;have hp:=run_places (P:=P) w fs.toList (sY hty hu);have h1':Instr.fill ((fs.map fun f=>(f.offset,(CD P f.type).getD 0))[·]?) z.cells (parts.map fun p=>(p.1,ρc p.2)).toList=some us:=by rw[AYy];exact h1
 simp only[execOp,ho,Instr.build,Sem.run_bind,B' hi0 hz0,Result.andThen_ok,run_underlying hu];rw[AZ4];simp_all;unfold Rep;grind;grind;rename_i n e hu;split at h;rename_i sz hs;split at h;rename_i cs' hb;obtain⟨ie,hie,rfl⟩:=Bs hs;refine⟨_,_,h,fun R' k'=>by simp only[evalOp,LH,hz,hu,hs,hb],BB fun w F m ρc o ho ht hi hr => ?_⟩;obtain⟨us,h1,h2,h3⟩:=kf hr (fun i p h=>h) parts.toList hb (HT _ _ hok) (KW _ _ hok);refine⟨.agg us,?_,?_⟩;have h1':Instr.fill (fun i=>some (i*ie.size,ie.size)) z.cells (parts.map fun p=>(p.1,ρc p.2)).toList=some us:=by simp_all
 simp only[execOp,ho,Instr.build,Sem.run_bind,B' hi0 hz0,Result.andThen_ok,run_underlying hu,run_sizeOf hie,h1'];rfl;unfold Rep;grind;grind;grind;grind;rename_i hz;split at h;rename_i cs fs hraw hu;split at h;rename_i cs' hb;obtain⟨i,z,hi0,hz0,hone,hinf,rfl⟩:=ya hraw hu;refine⟨_,_,h,fun R' k'=>by simp only[evalOp,LH,hz,hraw,hu,hb],BB fun w F m ρc o ho ht hi hr => ?_⟩;have hpl:∀ (i:Nat) (p:Nat×Nat),(match fs[i]? with
   |some f=>(CD P (Field.type f)).map fun n=>(Field.offset f,n)
   |none=>none)=some p→(fs.map fun f=>(f.offset,(CD P f.type).getD 0))[i]? = some p:=by
  intro i p hp
  split at hp
  ·rename_i f hf
   simp only[AXm]at hp
   grind
  grind
 obtain⟨us,h1,h2,h3⟩:=kf hr hpl parts.toList hb (fg (w:=w) (F:=F) (m:=m) (H:=H) z.cells.toList) hone;refine⟨.agg us,?_,?_⟩;have hp:=run_places (P:=P) w fs.toList hinf;have h1':Instr.fill ((fs.map fun f=>(f.offset,(CD P f.type).getD 0))[·]?) z.cells (parts.map fun p=>(p.1,ρc p.2)).toList=some us:=by rw[AYy];exact h1
 simp only[execOp,ho,Instr.build,Sem.run_bind,B' hi0 hz0,Result.andThen_ok,run_underlying hu];rw[AZ4];simp_all;unfold Rep;grind;grind;grind
theorem PG{w:World}{F:Nat→Prop}{t:Ty}{x:t.den}{u:Value}(h:CW w F t x u):Dat w F t x u.cells.toList:=by unfold CW at h;split at h;obtain⟨vs,rfl,h⟩:=h;exact h;have h1:=Dat.HY t h u (by simp);rw[Fj h1];exact h
theorem kg{w:World}{F:Nat→Prop}{m:Mp}{H:List Ob}{fz:List Bool}(hi:HI w F m H fz){ρ:Operand→AV}{ρc:Operand→Value}(hr:∀ x,Rep w F m H (ρ x) (ρc x)){t:Ty}:
  ∀ (ps:List (Nat×Operand)) {xs xs':List t.den} {fr fr':List Nat} {us:Array Value},D8 H t (ps.map fun p=>(p.1,ρ p.2)) xs fr=some (xs',fr')→rows (Dat w (Ds F m H fr) t) xs us.toList →
   ∃ us':Array Value,Instr.fill (fun i=>some (i*t.size,t.size)) us (ps.map fun p=>(p.1,ρc p.2))=some us'∧rows (Dat w (Ds F m H fr') t) xs' us'.toList∧xs'.length=xs.length:=by
 intro ps;induction ps with
  |nil=>intro xs xs' fr fr' us h hrw;simp only[AZc,D8,AXa,AXt]at h;obtain⟨rfl,rfl⟩:=h;exact⟨us,rfl,hrw,rfl⟩
  |cons p ps ih=>
   intro xs xs' fr fr' us h hrw;obtain⟨i,o⟩:=p;simp only[AX4,D8]at h;split at h;rename_i x f hx hd;simp only[AXc]at hd;have hk:=fun(x:t.den) cs (h:Dat w (Ds F m H (fr++f)) t x cs)=>Dat.length t h;have hdx:Dat w (Ds F m H (fr++f)) t x (ρc o).cells.toList:=(PG (Dx hi hx (hr o))).APq (fun i hi=>by simp[hi]);have hrw':rows (Dat w (Ds F m H (fr++f)) t) xs us.toList:=B8 (fun x _ cs hx=>hx.APq (fun i hi=>by simp[hi])) hrw;have hlen:=Bv hk hrw';have hl2:=hk _ _ hdx;have hle:i*t.size+t.size≤us.size:=by rw[← AX0,hlen];have:(i+1)*t.size≤xs.length*t.size:=AYT _ hd;grind
   have hfold:((ρc o).cells.zipIdx.foldl (fun cs (c,j)=>cs.setIfInBounds (i*t.size+j) c) us).toList=us.toList.take (i*t.size)++(ρc o).cells.toList++us.toList.drop (i*t.size+t.size):=by have:=To (i*t.size) (ρc o).cells.toList 0 us (by omega);rw[← Array.foldl_toList,Array.toList_zipIdx,this,AZL,hl2]
   obtain⟨us',e1,e2,e3⟩:=ih (us:=(ρc o).cells.zipIdx.foldl (fun cs (c,j)=>cs.setIfInBounds (i*t.size+j) c) us) h (by rw[hfold];exact pX hk hrw' hd hdx);refine⟨us',?_,e2,by grind⟩;simp only[AX4,Instr.fill];grind;grind
theorem FP{w:World}{F:Nat→Prop}{t:Ty}{z:List Value}(hz:Dat w F t t.zero z)(n:Nat):rows (Dat w F t) (List.replicate n t.zero) (List.replicate n z).flatten:=by
 induction n with
  |zero=>rfl
  |succ n ih=>exact⟨z,_,by grind,hz,ih⟩
theorem Db(z:Array Value):∀ (n:Nat),((Array.range (n*z.size)).map (z[· % z.size]!)).toList=(List.replicate n z.toList).flatten:=by
 intro n;rw[AYy,Array.toList_range];induction n with
  |zero=>simp
  |succ n ih=>rw[AYr,AZa,List.range_add,AZO,ih,List.replicate_succ'];simp only[AZ2,AYi,List.flatten_nil,AYf,List.append_cancel_left_eq,List.map_map];apply List.ext_getElem;simp;intro i h1 h2;simp only[AYU,AX1]at h1;simp[Nat.add_mod,AYW h1,h1]
theorem Cg{T:TypeId}{e:TypeId}{t:Ty}(h:sliceAt P T=some (e,t)):P.underlying T=some (.slice e)∧iO P e=some t∧0<t.size:=by unfold sliceAt at h;grind
theorem FZ{w:World}{F:Nat→Prop}{m:Mp}{H:List Ob}{fz:List Bool}(hi:HI w F m H fz){slot:Nat}(hf:Bc H fz slot=true){T:TypeId}{t:Ty}(ht:0<t.size){xs:List t.den}{vs:Array Value}{cap:Nat}
  {w':World} (hb:w'.heap[w.heap.size]? = some (.cells vs T (0,0))) (h1:w'.os=w.os) (h2:w'.tape=w.tape) (h3:w'.output=w.output) (hsz:w.heap.size≤w'.heap.size) (hk:∀ b,b<w.heap.size→w'.heap[b]? = w.heap[b]?)
  (hcap:xs.length≤cap) (hmax:cap≤maxLen) (hvs:vs.size=cap*t.size) {row:List Value} (hrow:rows (Dat w F t) xs row) (htake:vs.toList.take row.length=row) :
  ∃ m',BQ w F m H fz w' F m' (H.set slot (.arr T t xs)) fz∧Rep w' F m' (H.set slot (.arr T t xs)) (.own slot) (.slice (some ⟨w.heap.size,0,none⟩) xs.length cap):=by
 have hc:∀ b,F b→w'.heap[b]? = w.heap[b]? := fun b hF=>hk b (hi.lt b hF)
 have hg:=BQ.new (w':=w') hi hf (ob:=.arr T t xs) trivial (some (w.heap.size,cap)) h1 h2 h3 hsz hk (fun b c h=>by grind)
  (fun _=>⟨ht,vs,row,hb,hcap,hmax,hvs,B8 (fun x _ cs hx=>hx.mono hc (fun _ h=>h) t) hrow,htake⟩)
 refine⟨_,hg,?_⟩;unfold Rep;have hlt:=BU (B9 hf).1;rw[Bj hlt,BX];rfl
theorem IH{w:World}{T e:TypeId}{len:Nat}{t':Ty}{parts:Array (Nat×Value)}{i:TypeInfo}{z:Value}{us:Array Value}(hu:P.underlying T=some (.slice e))(hi0:P.info? e=some i)(hz0:i.zero=some z)
 (hsz:i.size=t'.size) (hd:len*t'.size≤16777216)
 (e1':Instr.fill (fun i=>some (i*t'.size,t'.size)) ((Array.range (len*t'.size)).map (z.cells[· % z.cells.size]!)) parts.toList=some us):(Instr.buildSlice T len parts).run P w = .ok (.slice (some ⟨w.heap.size,0,none⟩) len len) (w.alloc (.cells us e)):=by
 unfold Instr.buildSlice;simp only[Sem.run_bind,run_underlying hu,Result.andThen_ok,run_sizeOf hi0,hsz];rw[AXo (by omega)];by_cases h0:len*t'.size=0;have e2:Instr.fill (fun i=>some (i*t'.size,t'.size)) #[] parts.toList=some us:=by grind
 simp only[h0];simp[e2,newRow,Array.range];rw[AXo h0];simp[B' hi0 hz0,e1',newRow]
theorem So(T:TypeId)(len:Nat)(parts:Array (Nat×Operand)):Claim P E (.buildSlice T len parts):=by
 intro R ty ρ H fz slot k r h;simp only[evalOp,Ei]at h;split at h;rename_i e t hsl;split at h;rename_i zz hz;split at h;rename_i hd;split at h;rename_i xs fr hp;split at h;rename_i hf;refine⟨_,_,h,fun R' k'=>by simp only[evalOp,Ei,hsl,hz,hd,hp,hf],Bm fun w F m ρc o ho ht hi hr => ?_⟩;obtain⟨hu,hty,hpos⟩:=Cg hsl;obtain⟨t',cs'⟩:=zz;obtain⟨hty',hcs',i,z,hi0,hz0,hok,hsz,hza⟩:=CU hz;subst hcs';have:t'=t:=by grind
 subst this;simp only[AXc]at hd;have hzd:=CN (w:=w) (F:=F) t' _ hok;have hzl:z.cells.size=t'.size:=by rw[← AX0];exact Dat.length t' hzd
 have hr0:rows (Dat w (Ds F m H []) t') (List.replicate len t'.zero) ((Array.range (len*t'.size)).map (z.cells[· % z.cells.size]!)).toList:=by have:=Db z.cells len;rw[hzl]at this;rw[hzl,this];exact FP hzd.frz len
 obtain⟨us,e1,e2,e3⟩:=kg hi hr parts.toList hp hr0;have hgf:=BQ.freeze hi fr;have hlen:=Bv (fun x cs (h:Dat w (Ds F m H fr) t' x cs)=>Dat.length t' h) e2;have hxl:xs.length=len:=by grind
 have hbig:len≤16777216:=AYx (Nat.le_mul_of_pos_right len hpos) hd
 obtain⟨m',hg,hrep⟩:=FZ hgf.2 hf (w':=w.alloc (.cells us e)) hpos (heap_alloc_new w _) rfl rfl rfl (by simp) (fun b hb=>Below.heap_alloc w _ b hb) (cap:=len) (by omega) (by simp only[maxLen];omega)
  (by grind) e2 (by grind)
 refine⟨_,_,_,m',?_,hgf.trans hg,hrep⟩;have e1':Instr.fill (fun i=>some (i*t'.size,t'.size)) ((Array.range (len*t'.size)).map (z.cells[· % z.cells.size]!)) (parts.map fun p=>(p.1,ρc p.2)).toList=some us:=by simp_all
 rw[hxl];have:=IH (w:=w) hu hi0 hz0 hsz hd e1';simp[execOp,ho,this];grind;grind;grind;grind
 ·rename_i hsl;split at h
  ·rename_i e q hce hlen hps;have hq:=hps;rw[List.map_eq_singleton_iff]at hq;obtain⟨p,hps',hqp⟩:=hq;subst hqp;dsimp only at h;split at h
   ·rename_i tgt i sub hx;split at h
    ·rename_i hc;split at h
     ·rename_i hf;refine⟨_,_,h,fun R' k'=>by simp only[evalOp,Ei,hsl,hce,hlen,hps,hx,hc,hf],Bm fun w F m ρc o ho ht hi hr => ?_⟩;simp only[AXd,AXc]at hc;obtain⟨hp0,rfl,hlive⟩:=hc;simp only[AXc]at hlen;subst hlen;obtain⟨hu,ii,z,hi0,hz0,hsz,hzs,hby⟩:=Tx hce;have hrp:=hr p.2;rw[hx]at hrp;have hone:(ρc p.2).oneCell'=true:=by
       have h2:=hrp;unfold Rep at h2;cases hto:H[tgt]? with
        |none=>rw[hto]at h2;exact h2.elim
        |some o=>rw[hto]at h2;exact DY.one h2
      have hpt:(ρc p.2).cells = #[ρc p.2]:=by rw[← AZV (xs:=(ρc p.2).cells),Fj hone]
      have e1':Instr.fill (fun i=>some (i*Ty.bool.size,Ty.bool.size)) ((Array.range (1*Ty.bool.size)).map (z.cells[· % z.cells.size]!)) (parts.map fun p=>(p.1,ρc p.2)).toList=some #[ρc p.2]:=by
       rw[AYy,hps'];simp only[AX4,AZc,hp0];have key:∀ (f:Fin 1→Value) (v:Value),(Array.ofFn f).setIfInBounds 0 v = #[v]:=by intro f v;apply Array.ext;all_goals simp_all
       simp[Instr.fill,hpt,Ty.size,Array.range,key]
      have hrl:BD w F m H (GD tgt [Int.ofNat i]) [ρc p.2]:=by show BD w F m H [AV.eptr tgt (Int.ofNat i).toNat 0] [ρc p.2];unfold BD;exact⟨_,_,rfl,hrp,by unfold BD;rfl⟩
      obtain⟨m',hg,hrep⟩:=Qj hi hf (w':=w.alloc (.cells #[ρc p.2] e)) (heap_alloc_new w _) rfl rfl rfl (by simp) (fun b hb=>Below.heap_alloc w _ b hb) (cap:=1) (by simp) (by simp only[maxLen];omega) (by simp) hrl (by grind) (by simp);refine⟨_,_,_,m',?_,hg,hrep⟩;have:=IH (w:=w) (T:=T) (t':=.bool) hu hi0 hz0 (by rw[hsz];rfl) (by simp[Ty.size]) e1';simp[execOp,ho,this]
     grind
    grind
   grind
  grind
end
end Go.Pev
end
section
namespace Go.Pev
open Go.RowKit
section
variable {P:Program} {E:Env}
theorem Dw{w:World}{b:Nat}{vs:Array Value}{T:TypeId}{f:Nat×Nat}(h:w.heap[b]? = some (.cells vs T f))(i:Nat):w.cell? ⟨b,i,none⟩=vs[i]? := by simp[World.cell?,h]
theorem Q7{w:World}{F:Nat→Prop}{m:Mp}{H:List Ob}{fz:List Bool}(hi:HI w F m H fz){id:Nat}{cs:List AV}(ho:H[id]? = some (.box cs)){off:Nat}{v:Value}(hr:Rep w F m H (.ptr id off) v):
  ∃ b c vs T,m id=some (b,c)∧v = .pointer (some ⟨b,off,none⟩)∧w.heap[b]? = some (.cells vs T (0,0))∧BD w F m H cs vs.toList∧∀ u∈vs.toList,u.oneCell'=true:=by obtain⟨b,c,vs,T,e1,e2,e3,e4⟩:=hi.obj id _ ho;unfold Rep GZ at hr;grind
theorem LQ{w:World}{F:Nat→Prop}{m:Mp}{H:List Ob}{fz:List Bool}(hi:HI w F m H fz){id:Nat}{T:TypeId}{t:Ty}{xs:List t.den}(ho:H[id]? = some (.arr T t xs)){i sub:Nat}{v:Value}(hr:Rep w F m H (.eptr id i sub) v):
  ∃ b cap vs row,m id=some (b,cap)∧v = .pointer (some ⟨b,i*t.size+sub,none⟩)∧i<xs.length∧w.heap[b]? = some (.cells vs T (0,0))∧xs.length≤cap∧cap≤maxLen∧vs.size=cap*t.size∧rows (Dat w F t) xs row∧vs.toList.take row.length=row∧0<t.size:=by obtain⟨h0,h⟩:=hi.obj id _ ho;unfold Rep DY at hr;rw[ho]at hr;obtain⟨hlt,b,c,e5,e6⟩:=hr;rw[e5]at h;obtain⟨vs,row,e1,e2,e3,e4,e7,e8⟩:=h;exact⟨b,c,vs,row,e5,e6,hlt,e1,e2,e3,e4,e7,e8,h0⟩
theorem ABT(T:TypeId)(x:Operand):Claim P E (.load T x):=by
 intro R ty ρ H fz slot k r h;simp only[evalOp,Jm]at h;split at h;rename_i n ag hs ha;split at h;rename_i id off hx;split at h;rename_i cs ho;split at h;rename_i v hl;refine⟨_,_,h,fun R' k'=>by simp only[evalOp,Jm,hs,ha,hx,ho,hl],BB fun w F m ρc o hop hty hi hr => ?_⟩;obtain⟨b,c,vs,T',e1,e2,e3,e4,e5⟩:=Q7 hi ho (hx▸hr x);obtain⟨u,h1,h2⟩:=DZ (P:=P) hs ha hl (FL e4 off) (ad:=⟨b,off,none⟩) (fun u hu=>e5 u (AZD hu)) (fun j u hu=>by rw[Cs,Dw e3];grind)
 exact⟨u,by simp[execOp,hop,Instr.loadAt,e2,Instr.sureAddr,h1],h2⟩;grind;grind;rename_i cs hx;split at h;rename_i v hl;refine⟨_,_,h,fun R' k'=>by simp only[evalOp,Jm,hs,ha,hx,hl],BB fun w F m ρc o hop hty hi hr => ?_⟩;have hrx:=hr x;rw[hx]at hrx;unfold Rep at hrx;obtain⟨ad,us,e1,e2,e3,e4,e5⟩:=hrx;obtain⟨u,h1,h2⟩:=DZ (P:=P) hs ha hl e3 (ad:=ad) e4 e5;exact⟨u,by simp[execOp,hop,Instr.loadAt,e1,Instr.sureAddr,h1],h2⟩;grind;rename_i id i sub hx;split at h;rename_i T' t xs ho;split at h;rename_i v hl;refine⟨_,_,h,fun R' k'=>by simp only[evalOp,Jm,hs,ha,hx,ho,hl],BB fun w F m ρc o hop hty hi hr => ?_⟩;obtain⟨b,cap,vs,row,e1,e2,e3,e4,e5,e6,e7,e8,e9,e10⟩:=LQ hi ho (hx▸hr x);have hk:=fun(x:t.den) cs (h:Dat w F t x cs)=>Dat.length t h;have hget:xs[i]? = some (A7 xs i t.zero):=by unfold A7;grind
 have hd:=L5 hk e8 hget;have hre:=Il (m:=m) (H:=H) t hd;obtain⟨u,h1,h2⟩:=DZ (P:=P) hs ha hl (FL hre sub) (ad:=⟨b,i*t.size+sub,none⟩) (fun u hu=>Dat.HY t hd u (AZD hu)) (fun j u hu=>by rw[Cs,Dw e4];grind)
 exact⟨u,by simp[execOp,hop,Instr.loadAt,e2,Instr.sureAddr,h1],h2⟩;grind;rename_i T' tgt is ho;split at h;rename_i hc;refine⟨_,_,h,fun R' k'=>by simp only[evalOp,Jm,hs,ha,hx,ho,hc],BB fun w F m ρc o hop hty hi hr => ?_⟩;simp only[AXd,AY1,AYj]at hc;obtain⟨rfl,rfl,rfl⟩:=hc;have hrx:=hr x;rw[hx]at hrx;unfold Rep DY at hrx;rw[ho]at hrx;obtain⟨hlt,b,c,hm,e2⟩:=hrx;rw[AZL]at e2;have hob:=hi.obj id _ ho;rw[hm]at hob;obtain⟨vs,us,o1,o2,o3,o4,o5,o6,o7⟩:=hob;have hget:(GD tgt is)[i]? = some (.eptr tgt (A3 (A7 is i 0)) 0):=by unfold A7 A3 GD;grind
 obtain⟨u,hu,hru⟩:=C' o5 hget;have hv:=bS o7 hu;obtain⟨u',h1,h2⟩:=DZ (P:=P) (T:=T) (n:=1) (ag:=false) (cs:=[.eptr tgt (A3 (A7 is i 0)) 0]) (us:=[u]) (v:=.eptr tgt (A3 (A7 is i 0)) 0) hs ha rfl (by unfold BD;exact⟨_,_,rfl,hru,by unfold BD;rfl⟩) (ad:=⟨b,i,none⟩) (fun x hx=>by
  grind) (fun j x hj=>by
  cases j with
   |zero=>rw[Cs,Dw o1];grind
   |succ j=>grind)
 exact⟨u',by simp[execOp,hop,Instr.loadAt,e2,Instr.sureAddr,h1],h2⟩;grind;rename_i T' e t xs ver ho;split at h;rename_i hc;refine⟨_,_,h,fun R' k'=>by simp only[evalOp,Jm,hs,ha,hx,ho,hc],BB fun w F m ρc o hop hty hi hr => ?_⟩;simp only[AXd,AY1,AYj]at hc;obtain⟨rfl,rfl,rfl⟩:=hc;have hrx:=hr x;rw[hx]at hrx;unfold Rep DY at hrx;rw[ho]at hrx;obtain⟨hlt,b,c,hm,e2⟩:=hrx;rw[AZL]at e2;obtain⟨b',cap,u,q1,⟨vs,q2,q3⟩,q4⟩:=pZ hi ho hlt;rw[hm]at q1;cases q1;obtain⟨u',h1,h2⟩:=DZ (P:=P) (T:=T) (n:=1) (ag:=false) (cs:=[.rowp id i ver]) (us:=[u]) (v:=.rowp id i ver) hs ha rfl (by unfold BD;exact⟨_,_,rfl,q4,by unfold BD;rfl⟩) (ad:=⟨b,i,none⟩) (fun x hx=>by
  rw[AYB]at hx;subst hx;have:=q4;unfold Rep at this;rw[ho]at this;exact this.one) (fun j x hj=>by
  cases j with
   |zero=>rw[Cs,Dw q2];grind
   |succ j=>grind)
 exact⟨u',by simp[execOp,hop,Instr.loadAt,e2,Instr.sureAddr,h1],h2⟩;grind;grind;grind;grind
theorem Gw{w:World}{b:Nat}{cs:Array Value}:(w.setRow b cs).os=w.os∧(w.setRow b cs).tape=w.tape∧(w.setRow b cs).output=w.output∧(w.setRow b cs).heap.size=w.heap.size∧∀ k,k≠b→(w.setRow b cs).heap[k]? = w.heap[k]? :=
 ⟨rfl,rfl,rfl,setRow_size w b cs,fun k hk=>setRow_other w b k cs hk⟩
theorem AIZ{H:List Ob}{fz:List Bool}{id:Nat}{cs:List AV}(h:H[id]? = some (.box cs)):owned H fz id:=by simp only[owned,Cd];grind
theorem C3{H:List Ob}{fz:List Bool}{id:Nat}{T:TypeId}{t:Ty}{xs:List t.den}(h:H[id]? = some (.arr T t xs))(hf:BJ fz id=true):owned H fz id:=by simp only[owned,Cd];rw[h];simpa [BJ]using hf
theorem FF{H:List Ob}{fz:List Bool}{id:Nat}{a b:Ty}{es:List (a.den×b.den)}(h:H[id]? = some (.map a b es)):owned H fz id:=by simp only[owned,Cd];grind
theorem ld{w:World}{F:Nat→Prop}{m:Mp}{H:List Ob}{fz:List Bool}(hi:HI w F m H fz){id:Nat}{T:TypeId}{t:Ty}{xs:List t.den}(ho:H[id]? = some (.arr T t xs))(hf:BJ fz id=true)
  {b cap:Nat} (hm:m id=some (b,cap)) {i:Nat} (hlt:i<xs.length) {y:t.den} {ds:List Value} (hy:Dat w F t y ds) {vs:Array Value} {row:List Value}
  (e1:w.heap[b]? = some (.cells vs T (0,0))) (e2:xs.length≤cap) (e3:cap≤maxLen) (e4:vs.size=cap*t.size) (e7:rows (Dat w F t) xs row) (e8:vs.toList.take row.length=row) (h0:0<t.size) :
  BQ w F m H fz (w.setRow b (vs.toList.take (i*t.size)++ds++vs.toList.drop (i*t.size+t.size)).toArray) F m (H.set id (.arr T t (BH xs i y))) fz:=by
 obtain⟨r1,r2,r3,r4,r5⟩:=Gw (w:=w) (b:=b) (cs:=(vs.toList.take (i*t.size)++ds++vs.toList.drop (i*t.size+t.size)).toArray);have hk:=fun(x:t.den) cs (h:Dat w F t x cs)=>Dat.length t h;have hlen:=Bv hk e7;have hdl:=hk _ _ hy;have hle:i*t.size+t.size≤xs.length*t.size:=by have:(i+1)*t.size≤xs.length*t.size:=AYT _ hlt;grind
 have hle2:xs.length*t.size≤cap*t.size:=AYT _ e2;have hvl:vs.toList.length=cap*t.size:=by omega
 refine BQ.set hi (C3 ho hf) hm ho ⟨rfl,by simp[BH]⟩ r1 r2 r3 r4 r5 fun hmono => ?_;refine⟨h0,?_⟩;rw[hm];refine⟨_,row.take (i*t.size)++ds++row.drop (i*t.size+t.size),setRow_heap w b vs _ T _ e1,by simpa [BH]using e2,e3,?_,?_,?_⟩;grind
 have hcell:∀ k,F k→(w.setRow b (vs.toList.take (i*t.size)++ds++vs.toList.drop (i*t.size+t.size)).toArray).heap[k]? = w.heap[k]? := fun k ha=>
  r5 k (by rintro rfl;exact hi.off id _ cap (C3 ho hf) hm ha)
 exact B8 (fun x _ cs hx=>hx.mono hcell (fun _ h=>h) t) (pX hk e7 hlt hy)
 ·have hrl:(row.take (i*t.size)++ds++row.drop (i*t.size+t.size)).length=row.length:=by grind
  rw[hrl];show List.take row.length (vs.toList.take (i*t.size)++ds++vs.toList.drop (i*t.size+t.size))=_;have h1:row.take (i*t.size)=vs.toList.take (i*t.size):=by rw[← e8,AaE,AYg (by omega)]
  have h2:row.drop (i*t.size+t.size)=(vs.toList.drop (i*t.size+t.size)).take (row.length-(i*t.size+t.size)):=by
   conv=>lhs;rw[← e8]
   rw[List.drop_take]
  rw[h1,h2,AaO,AY7 (by grind)];congr 2;simp only[AXn,AYX,hvl,hdl];omega
theorem nul?_some{t e:Ty}(h:t.nul? = some e):t = .nul e:=by
 cases t<;>simp only[Ty.nul?]at h<;>first|(cases h;done)|skip
 grind
theorem pY{w:World}{F:Nat→Prop}{e:Ty}:∀ {xs:List Unit} {cs:List Value},rows (Dat w F (.nul e)) xs cs→rows (Dat w F (.slice e)) (DD xs.length []) cs:=by
 intro xs;induction xs with
  |nil=>exact fun h=>h
  |cons x xs ih=>rintro cs ⟨c1,c2,rfl,h1,h2⟩;cases h1;exact⟨_,c2,rfl,⟨none,0,rfl,AXl _,fun h=>absurd rfl h⟩,ih h2⟩
theorem AUQ{w:World}{F:Nat→Prop}{m:Mp}{H:List Ob}{fz:List Bool}(hi:HI w F m H fz){id:Nat}{T:TypeId}{e:Ty}{xs:List Unit}(ho:H[id]? = some (.arr T (.nul e) xs))(hf:BJ fz id=true)
  {b cap:Nat} (hm:m id=some (b,cap)) {vs:Array Value} {row:List Value}
  (e1:w.heap[b]? = some (.cells vs T (0,0))) (e2:xs.length≤cap) (e3:cap≤maxLen) (e4:vs.size=cap*1) (e7:rows (Dat w F (.nul e)) xs row) (e8:vs.toList.take row.length=row) :
  BQ w F m H fz w F m (H.set id (.arr T (.slice e) (DD xs.length []))) fz:=by
 refine BQ.set hi (C3 ho hf) hm ho ⟨rfl,by simp[DD]⟩ rfl rfl rfl rfl (fun _ _=>rfl) fun _=>⟨Nat.one_pos,?_⟩
 rw[hm];exact⟨vs,row,e1,by simpa [DD]using e2,e3,e4,pY e7,e8⟩
theorem tT(T:TypeId)(x y:Operand):Claim P E (.store T x y):=by
 intro R ty ρ H fz slot k r h;simp only[evalOp,Gh]at h;split at h
 ·rename_i n vs hs hv;split at h;cases h
  ·rename_i hd;simp only[AXc]at hd;split at h;rename_i id off hx;split at h;rename_i cs ho;split at h;rename_i cs' hp;refine⟨_,_,h,fun R' k'=>by simp only[evalOp,Gh,hs,hv,hd,AXi,hx,ho,hp],Ef fun w F m ρc o hop hty hi hr => ?_⟩;obtain⟨b,c,us,T',e1,e2,e3,e4,e5⟩:=Q7 hi ho (hx▸hr x);have hry:=cells?_ok hv (hr y);have h1y:=cells?_one hv (hr y);obtain⟨hle,hr'⟩:=Je hp e4 hry;have hyl:=Ba hry;have hul:=Ba e4;have hsz:(ρc y).cells.size=n:=by grind
   have hst:=Dz (P:=P) hs e3 (off:=off) hsz h1y (by grind);obtain⟨r1,r2,r3,r4,r5⟩:=Gw (w:=w) (b:=b) (cs:=(us.toList.take off++(ρc y).cells.toList++us.toList.drop (off+n)).toArray);have hg:=BQ.set hi (AIZ ho) e1 ho (o':=.box cs') trivial r1 r2 r3 r4 r5 fun hmono=>⟨b,c,_,T',e1,setRow_heap w b us _ T' _ e3,?_,?_⟩
   exact⟨_,F,m,by simp[execOp,hop,Instr.storeAt,e2,Instr.sureAddr,hst],hg⟩;rw[hd]at hr';exact Dy (Ba hr') fun i c v hc hv=>by obtain⟨v',hv',hr''⟩:=C' hr' hc;grind
   grind;grind;grind
   ·rename_i id i sub hx;split at h
    ·rename_i T' t xs ho;split at h;rename_i e hnul;have htn:=nul?_some hnul;subst htn;split at h;rename_i hc;split at h;rename_i z fr hz;split at h;rename_i hf;refine⟨_,_,h,fun R' k'=>by simp only[evalOp,Gh,hs,hv,hd,AXi,hx,ho,hnul,hc,hz,hf],Ef fun w F m ρc o hop hty hi hr => ?_⟩;simp only[AXd,AY1]at hc;obtain⟨rfl,rfl⟩:=hc;have hgf:=BQ.freeze hi fr;have hrx:=hgf.1.rep hi (hx▸hr x);obtain⟨b,cap,us,row,e1,e2,e3,e4,e5,e6,e7,e8,e9,e10⟩:=LQ hgf.2 ho hrx;have hg0:=AUQ hgf.2 ho hf e1 e4 e5 e6 e7 e8 e9;have hyd:=PG (Dx hi hz (hr y));have hyl:=Dat.length (.slice e) hyd;have hst:=Dz (P:=P) hs e4 (off:=i*1) (u:=ρc y) (by rw[← AX0,hyl];rfl) (cells?_one hv (hr y)) (by rw[e7];have:(i+1)*1≤cap*1:=AYT _ (by omega);rwa [AYr,AZa]at this)
     have hlt:=BU ho;have hg:=ld (t:=.slice e) hg0.2 (Bj hlt) hf e1 (by simpa [DD]using e3) (hg0.1.dat hgf.2 (t:=.slice e) hyd) e4 (by simpa [DD]using e5) e6 e7 (pY e8) e9 e10;rw[List.set_set]at hg;have e2':ρc x = .pointer (some ⟨b,i*(Ty.slice e).size,none⟩):=e2;refine⟨_,_,m,(?_:(execOp ρc o).run P w = .ok _ _),(hgf.trans hg0).trans hg⟩;have hst':(storeVar T ⟨b,i*(Ty.slice e).size,none⟩ (ρc y)).run P w = .ok () (w.setRow b (us.toList.take (i*(Ty.slice e).size)++(ρc y).cells.toList++us.toList.drop (i*(Ty.slice e).size+(Ty.slice e).size)).toArray):=hst;simp[execOp,hop,Instr.storeAt,e2',Instr.sureAddr,hst'];grind;grind;grind;rename_i hnul;split at h;rename_i hc;split at h;rename_i z fr hz;split at h;rename_i hf;refine⟨_,_,h,fun R' k'=>by simp only[evalOp,Gh,hs,hv,hd,AXi,hx,ho,hnul,hc,hz,hf],Ef fun w F m ρc o hop hty hi hr => ?_⟩;simp only[AXd,AY1]at hc;obtain⟨rfl,rfl⟩:=hc;have hgf:=BQ.freeze hi fr;have hrx:=hgf.1.rep hi (hx▸hr x);obtain⟨b,cap,us,row,e1,e2,e3,e4,e5,e6,e7,e8,e9,e10⟩:=LQ hgf.2 ho hrx;have hyd:=PG (Dx hi hz (hr y));have hyl:=Dat.length t hyd;have hst:=Dz (P:=P) hs e4 (off:=i*t.size) (u:=ρc y) (by omega) (cells?_one hv (hr y)) (by rw[e7];have:(i+1)*t.size≤cap*t.size:=AYT _ (by omega);grind)
     have hg:=ld hgf.2 ho hf e1 e3 hyd e4 e5 e6 e7 e8 e9 e10;exact⟨_,_,m,by simp[execOp,hop,Instr.storeAt,e2,Instr.sureAddr,hst],hgf.trans hg⟩;grind;grind
     ·rename_i hc;split at h;cases h
      ·rename_i cs' hp;split at h
       ·rename_i z fr hz;split at h
        ·rename_i hf;refine⟨_,_,h,fun R' k'=>by simp only[evalOp,Gh,hs,hv,hd,AXi,hx,ho,hnul,hc,hp,hz,hf],Ef fun w F m ρc o hop hty hi hr => ?_⟩;have hgf:=BQ.freeze hi fr;obtain⟨b,cap,us,row,e1,e2,e3,e4,e5,e6,e7,e8,e9,e10⟩:=LQ hi ho (hx▸hr x);have hk:=fun(x:t.den) cs (h:Dat w F t x cs)=>Dat.length t h;have hget:xs[i]? = some (A7 xs i t.zero):=by unfold A7;grind
         have hdi:=L5 hk e8 hget;have hre:=Il (m:=m) (H:=H) t hdi;have hry:=cells?_ok hv (hr y);have h1y:=cells?_one hv (hr y);obtain⟨hle,hr'⟩:=Je hp hre hry;have hyl:=Ba hry;have hel:=Ba hre;have hrl:=Bv hk e8;have hcl:=hk _ _ hdi;have hi1:i*t.size+t.size≤xs.length*t.size:=by grind
         have hi2:xs.length*t.size≤cap*t.size:=AYT _ e5;rw[hd]at hle hr';have hst:=Dz (P:=P) hs e4 (off:=i*t.size+sub) (u:=ρc y) (by grind) h1y (by omega);obtain⟨u1,u2,q1,q2,q3⟩:=YV hi t hz hr';unfold BD at q3;subst q3;rw[AYf]at q1;subst q1;have hg:=ld hgf.2 ho hf e1 e3 q2 e4 e5 e6 e7 (B8 (fun x _ cs hx=>hx.frz) e8) e9 e10;have hX:(row.drop (i*t.size)).take t.size=(us.toList.drop (i*t.size)).take t.size:=by
          conv=>lhs;rw[← e9]
          rw[List.drop_take,AaE,AYg (by omega)]
         have hEq:us.toList.take (i*t.size)++(((row.drop (i*t.size)).take t.size).take sub++(ρc y).cells.toList++((row.drop (i*t.size)).take t.size).drop (sub+n))++us.toList.drop (i*t.size+t.size) =
           us.toList.take (i*t.size+sub)++(ρc y).cells.toList++us.toList.drop (i*t.size+sub+n):=by
          rw[hX,List.take_add,AaE,AYg (by omega)]
          have:((us.toList.drop (i*t.size)).take t.size).drop (sub+n)++us.toList.drop (i*t.size+t.size)=us.toList.drop (i*t.size+sub+n):=by
           rw[← AZA (i:=t.size),Nat.add_assoc,← AZA (i:=sub+n)]
           conv=>rhs;rw[← AYK t.size (us.toList.drop (i*t.size))]
           grind
          grind
         rw[hEq]at hg;exact⟨_,_,m,by simp[execOp,hop,Instr.storeAt,e2,Instr.sureAddr,hst],hgf.trans hg⟩
        grind
       grind
    rename_i T' e t xs ver i' ho;split at h;rename_i id' j ver' hy hc;split at h;rename_i hd2;split at h;rename_i hq;refine⟨_,_,h,fun R' k'=>by have hv':=hv;rw[hy]at hv';simp only[evalOp,Gh,hs,hv',hd,AXi,hx,ho,hy,hc,hd2,hq],Ef fun w F m ρc o hop hty hi hr => ?_⟩
    simp only[AXd,AY1,AXc,D_]at hc hd2 hq;obtain⟨⟨rfl,rfl⟩,hun⟩:=hc;obtain⟨rfl,rfl⟩:=hd2;obtain⟨hq1,hq2⟩:=hq;have e1:i=i':=by omega
    have e2:j=i':=by omega
    subst e1;subst e2;have hun':fz.getD id false=false:=by unfold BJ at hun;grind
    have hrx:=hr x;rw[hx]at hrx;unfold Rep DY at hrx;rw[ho]at hrx;obtain⟨hlt,b,c,hm,e2⟩:=hrx;rw[AZL]at e2;have hry:=hr y;rw[hy]at hry;unfold Rep at hry;rw[ho]at hry;obtain⟨hone,_,h7⟩:=hry;obtain⟨ys,hys,hrep⟩:=(h7 rfl).resolve_right fun h=>by cases h.1
    obtain⟨h4,h5⟩:=hi.obj id _ ho;rw[hm]at h5;obtain⟨us,q1,q2,q3,q4,q5⟩:=h5;have hcl:=Fj hone;have hsz1:(ρc y).cells.size=1:=by rw[← AX0,hcl];rfl
    have hlu:j+1≤us.size:=by omega
    have hst:=Dz (P:=P) hs q1 (off:=j) (u:=ρc y) hsz1 (cells?_one hv (hr y)) hlu;obtain⟨r1,r2,r3,r4,r5⟩:=Gw (w:=w) (b:=b) (cs:=(us.toList.take j++(ρc y).cells.toList++us.toList.drop (j+1)).toArray);have hg:=BQ.put hi ho hun' hys hm q1 hrep r1 r2 r3 r4 r5 (setRow_heap w b us _ T' _ q1) (by rw[List.toList_toArray,hcl,List.set_eq_take_append_cons_drop,AXp (by grind)];simp)
    exact⟨_,F,m,by simp[execOp,hop,Instr.storeAt,e2,Instr.sureAddr,hst],hg⟩;grind;grind;grind;grind
   grind
 grind
theorem K4{H:List Ob}{id:Nat}(h:FW H id=true):∃ cs,H[id]? = some (.box cs):=by unfold FW at h;grind
theorem Ed{H:List Ob}{id:Nat}(h:DW H id=true):∃ T t xs,H[id]? = some (.arr T t xs):=by unfold DW at h;grind
theorem ZA(x:Operand):Claim P E (.nilCheck x):=by intro R ty ρ H fz slot k r h;simp only[evalOp,DU]at h;split at h;rename_i id off hx;split at h;rename_i hl;obtain⟨cs,ho⟩:=K4 hl;refine⟨_,_,h,fun R' k'=>by simp only[evalOp,DU,hx,hl],BB fun w F m ρc o hop hty hi hr=>⟨ρc x,?_,hx▸hr x⟩⟩;obtain⟨b,c,vs,T,_,e2,_⟩:=Q7 hi ho (hx▸hr x);simp[execOp,hop,e2];grind;rename_i id i s hx;split at h;rename_i hl;obtain⟨T,t,xs,ho⟩:=Ed hl;refine⟨_,_,h,fun R' k'=>by simp only[evalOp,DU,hx,hl],BB fun w F m ρc o hop hty hi hr=>⟨ρc x,?_,hx▸hr x⟩⟩;obtain⟨b,c,vs,T,_,e2,_⟩:=LQ hi ho (hx▸hr x);simp[execOp,hop,e2];grind;rename_i cs hx;refine⟨_,_,h,fun R' k'=>by simp only[evalOp,DU,hx],BB fun w F m ρc o hop hty hi hr=>⟨ρc x,?_,hx▸hr x⟩⟩;have hrx:=hr x;rw[hx]at hrx;unfold Rep at hrx;obtain⟨ad,us,e1,_⟩:=hrx;simp[execOp,hop,e1];rename_i f cs hx;refine⟨_,_,h,fun R' k'=>by simp only[evalOp,DU,hx],BB fun w F m ρc o hop hty hi hr=>⟨ρc x,?_,hx▸hr x⟩⟩;have hrx:=hr x;rw[hx]at hrx;unfold Rep at hrx;obtain⟨us,e1,_⟩:=hrx;simp[execOp,hop,e1];rename_i f cs hx;refine⟨_,_,h,fun R' k'=>by simp only[evalOp,DU,hx],BB fun w F m ρc o hop hty hi hr=>⟨ρc x,?_,hx▸hr x⟩⟩;have hrx:=hr x;rw[hx]at hrx;unfold Rep at hrx;obtain⟨us,e1,_⟩:=hrx;simp[execOp,hop,e1];grind
end
end Go.Pev
end
section
namespace Go.Pev
open Go.RowKit
section
variable {P:Program} {E:Env}
theorem G6(op:BinOp)(t:TypeId)(x y:Operand)(w:World)(k:IntKind)(n:Int)(v:Value):(eqGuard op t x y (.int k n) v).run P w = .ok () w:=by rw[eqGuard_at_int];rfl
theorem Qt(op:BinOp)(t:TypeId)(x y:Operand)(w:World)(b:Bool)(v:Value):(eqGuard op t x y (.bool b) v).run P w = .ok () w:=by rw[eqGuard_at_bool];rfl
theorem Qs(op:BinOp)(t:TypeId)(x y:Operand)(w:World)(b:ByteArray)(v:Value):(eqGuard op t x y (.string b) v).run P w = .ok () w:=by rw[eqGuard_at_string];rfl
theorem tq(s s':ByteArray):AMi (bytesOf s) (bytesOf s')=(s.toList==s'.toList):=by rw[AZ5];unfold AMi;rw[AY1,AY1,ByteArray.toList_eq,ByteArray.toList_eq];unfold bytesOf;constructor;intro h;exact(List.map_inj_right (fun a b e=>UInt8.toNat_inj.1 (Int.ofNat.inj e))).1 h;grind
theorem xy{op:BinOp}{j:IntKind}{a b:Int}{v:AV}(h:ABm op j a b=some v)(t:TypeId)(w:World):
  ∃ u,(binOp op t (.int j a) (.int j b)).run P w = .ok u w∧∀ F m H,Rep w F m H v u:=by
 unfold ABm at h;simp only[BM,BZ,D_]at h;cases op with
  |add=>simp only[AXa]at h;subst h;exact⟨.int j (j.wrap (a+b)),by simp[binOp,Op.intArith],fun _ _ _=>Bd _ _⟩
  |sub=>simp only[AXa]at h;subst h;exact⟨.int j (j.wrap (a-b)),by simp[binOp,Op.intArith],fun _ _ _=>Bd _ _⟩
  |mul=>simp only[AXa]at h;subst h;exact⟨.int j (j.wrap (a*b)),by simp[binOp,Op.intArith],fun _ _ _=>Bd _ _⟩
  |and=>simp only[AXa]at h;subst h;exact⟨.int j (j.wrap (BitVec.ofInt j.bits a &&& BitVec.ofInt j.bits b).toNat),by simp only[binOp,ne_eq,AYd,AXv];rfl,fun _ _ _=>Bd _ _⟩
  |or=>simp only[AXa]at h;subst h;exact⟨.int j (j.wrap (BitVec.ofInt j.bits a ||| BitVec.ofInt j.bits b).toNat),by simp only[binOp,ne_eq,AYd,AXv];rfl,fun _ _ _=>Bd _ _⟩
  |xor=>simp only[AXa]at h;subst h;exact⟨.int j (j.wrap (BitVec.ofInt j.bits a ^^^ BitVec.ofInt j.bits b).toNat),by simp only[binOp,ne_eq,AYd,AXv];rfl,fun _ _ _=>Bd _ _⟩
  |andNot=>simp only[AXa]at h;subst h;exact⟨.int j (j.wrap (BitVec.ofInt j.bits a &&& ~~~(BitVec.ofInt j.bits b)).toNat),by simp only[binOp,ne_eq,AYd,AXv];rfl,fun _ _ _=>Bd _ _⟩
  |eql=>simp only[AXa]at h;subst h;exact⟨.bool (a==b),by simp only[binOp,ne_eq,AYd,AXv];rfl,fun _ _ _=>B4 _⟩
  |neq=>simp only[AXa]at h;subst h;exact⟨.bool (a != b),by simp only[binOp,ne_eq,AYd,AXv];rfl,fun _ _ _=>B4 _⟩
  |lss=>simp only[AXa]at h;subst h;exact⟨.bool (decide (a<b)),by simp only[binOp,ne_eq,AYd,AXv];rfl,fun _ _ _=>B4 _⟩
  |leq=>simp only[AXa]at h;subst h;exact⟨.bool (decide (a≤b)),by simp only[binOp,ne_eq,AYd,AXv];rfl,fun _ _ _=>B4 _⟩
  |gtr=>simp only[AXa]at h;subst h;exact⟨.bool (decide (a > b)),by simp only[binOp,ne_eq,AYd,AXv];rfl,fun _ _ _=>B4 _⟩
  |geq=>simp only[AXa]at h;subst h;exact⟨.bool (decide (a≥b)),by simp only[binOp,ne_eq,AYd,AXv];rfl,fun _ _ _=>B4 _⟩
  |_=>cases h
theorem KP{w:World}{F:Nat→Prop}{m:Mp}{H:List Ob}{v:AV}(h:N' v=true){u:Value}(hr:Rep w F m H v u):∃ vs,u = .agg vs:=by
 cases v with
  |agg cs=>unfold Rep at hr;grind
  |data t d=>have h:t.isAgg=true:=h;unfold Rep CW at hr;grind
  |_=>simp[N']at h
theorem aN{T:TypeId}{n:List Bool}(h:structEq P T=some n):∃ fs:Array Field,P.underlying T=some (.struct fs)∧P.eqGuardType P.depth T=false∧P.stoodInHeld T=false∧EN P fs.toList 0=true∧n=fs.toList.map fun f=>IY P f.type:=by unfold structEq at h;grind
theorem Ck{t:TypeId}(h:Lz P t=true):(∃ k,P.underlying t=some (.int k)∧IY P t=true)∨(P.underlying t=some .bool∧IY P t=false):=by unfold Lz at h;split at h;rename_i k hk;exact .inl ⟨k,hk,by simp[IY,hk]⟩;rename_i hk;exact .inr ⟨hk,by simp[IY,hk]⟩;grind
theorem Me{k:Bool}{ks:List Bool}{c e:AV}{cs ds:List AV}{r:Bool}(h:B6 (k::ks) (c::cs) (e::ds)=some r):
  (∃ j a b r',k=true∧c = .data (.int j) a∧e = .data (.int j) b∧B6 ks cs ds=some r'∧r=(ieq a b&&r'))∨(∃ a b r',k=false∧c = .data .bool a∧e = .data .bool b∧B6 ks cs ds=some r'∧r=((a==b)&&r')):=by unfold B6 at h;grind
theorem Qu{w:World}{F:Nat→Prop}{m:Mp}{H:List Ob}(d:Nat)(xs ys:Array Value):∀ (fs:List Field) (i:Nat) (cs ds:List AV) (r:Bool),EN P fs i=true→BD w F m H cs (xs.toList.drop i)→BD w F m H ds (ys.toList.drop i)→B6 (fs.map fun f=>IY P f.type) cs ds=some r →
  (Op.eqFields (d+1) xs ys fs).run P w = .ok r w:=by
 intro fs;induction fs with
  |nil=>
   intro i cs ds r hok hc hd he;cases cs with
    |cons c cs=>simp[B6]at he
    |nil=>
     cases ds with
      |cons c cs=>simp[B6]at he
      |nil=>simp only[AZc,B6,AXa]at he;subst he;simp[Op.eqFields]
  |cons f fs ih=>
   intro i cs ds r hok hc hd he;rw[AX4]at he;cases cs with
    |nil=>cases hf:IY P f.type<;>rw[hf]at he<;>simp[B6]at he
    |cons c cs=>
     cases ds with
      |nil=>cases hf:IY P f.type<;>rw[hf]at he<;>simp[B6]at he
      |cons e ds=>
       simp only[EN,AXd,bne_iff_ne,AXc]at hok;obtain⟨hn,ho,hsc,hok⟩:=hok;unfold BD at hc hd;obtain⟨v,vs,e1,hv,hvs⟩:=hc;obtain⟨u,us,e2,hu,hus⟩:=hd;have g1:xs[i]? = some v:=by
        have:=AYh (·[0]?) e1
        grind
       have g2:ys[i]? = some u:=by
        have:=AYh (·[0]?) e2
        grind
       have n1:xs.toList.drop (i+1)=vs:=by have:=AYh (List.drop 1) e1;simpa only[AZA,AY8,AY2]using this
       have n2:ys.toList.drop (i+1)=us:=by have:=AYh (List.drop 1) e2;simpa only[AZA,AY8,AY2]using this
       have hag:Ew P f.type=some false:=by rcases Ck hsc with⟨k,hk,_⟩|⟨hk,_⟩<;>simp[Ew,hk]
       have p1:(part f.type xs f.offset).run P w = .ok v w:=by rw[ho];simp[part,DE hag,g1]
       have p2:(part f.type ys f.offset).run P w = .ok u w:=by rw[ho];simp[part,DE hag,g2]
       have step:∀ (q r':Bool),(Op.equalIn (d+1) f.type v u).run P w = .ok q w→B6 (fs.map fun f=>IY P f.type) cs ds=some r'→(Op.eqFields (d+1) xs ys (f::fs)).run P w = .ok (q&&r') w:=by intro q r' h1 h2;have h3:=ih (i+1) cs ds r' hok (by grind) (by grind) h2;simp only[Op.eqFields,hn,ne_eq,not_false_eq_true,AX9,Sem.run_bind,p1,Result.andThen_ok,p2,h1,Sem.run_ite];cases q;all_goals simp_all
       rcases Me he with⟨j,a,b,r',hk,rfl,rfl,h2,rfl⟩|⟨a,b,r',hk,rfl,rfl,h2,rfl⟩
       have v1:=Bn hv;have v2:=Bn hu;subst v1 v2;rcases Ck hsc with⟨k,hk1,_⟩|⟨_,hk2⟩
       rw[D_];exact step _ _ (run_equalIn_int w d f.type j k a b hk1) h2;grind;have v1:=Da hv;have v2:=Da hu;subst v1 v2;rcases Ck hsc with⟨k,_,hk2⟩|⟨hk1,_⟩
       grind;exact step _ _ (run_equalIn_bool' w d f.type a b hk1) h2
theorem sg:∀ {ks ks':List Bool} {cs ds:List AV} {r:Bool},B6 (ks++ks') cs ds=some r →
  ∃ cs1 cs2 ds1 ds2 r1 r2,cs=cs1++cs2∧ds=ds1++ds2∧cs1.length=ks.length∧ds1.length=ks.length∧B6 ks cs1 ds1=some r1∧B6 ks' cs2 ds2=some r2∧r=(r1&&r2):=by
 intro ks;induction ks with
  |nil=>intro ks' cs ds r h;exact⟨[],cs,[],ds,true,r,rfl,rfl,rfl,rfl,rfl,h,by simp⟩
  |cons b ks ih=>
   intro ks' cs ds r h;rw[AX3]at h;cases cs with
    |nil=>cases b<;>simp[B6]at h
    |cons c cs=>
     cases ds with
      |nil=>cases b<;>simp[B6]at h
      |cons e ds=>
       rcases Me h with⟨j,x,y,r',rfl,rfl,rfl,h2,rfl⟩|⟨x,y,r',rfl,rfl,rfl,h2,rfl⟩
       obtain⟨cs1,cs2,ds1,ds2,r1,r2,rfl,rfl,l1,l2,q1,q2,rfl⟩:=ih h2;exact⟨_::cs1,cs2,_::ds1,ds2,(ieq x y&&r1),r2,rfl,rfl,by simp[l1],by simp[l2],by simp[B6,q1],q2,by grind⟩;obtain⟨cs1,cs2,ds1,ds2,r1,r2,rfl,rfl,l1,l2,q1,q2,rfl⟩:=ih h2;exact⟨_::cs1,cs2,_::ds1,ds2,((x==y)&&r1),r2,rfl,rfl,by simp[l1],by simp[l2],by simp[B6,q1],q2,by grind⟩
theorem ZR{w:World}{F:Nat→Prop}{m:Mp}{H:List Ob}:∀ {a b:List AV} {vs:List Value},BD w F m H (a++b) vs→∃ v1 v2,vs=v1++v2∧BD w F m H a v1∧BD w F m H b v2:=by
 intro a;induction a with
  |nil=>intro b vs h;exact⟨[],vs,rfl,by unfold BD;rfl,h⟩
  |cons c a ih=>intro b vs h;rw[AX3]at h;unfold BD at h;obtain⟨v,vs',rfl,hv,h⟩:=h;obtain⟨v1,v2,rfl,h1,h2⟩:=ih h;exact⟨v::v1,v2,rfl,by unfold BD;grind,h2⟩
theorem AAd{w:World}{F:Nat→Prop}{m:Mp}{H:List Ob}(d:Nat)(xs ys:Array Value):∀ (fs:List Field) (i:Nat) (n:List Bool) (cs ds:List AV) (r:Bool),Oa P fs i=some n→BD w F m H cs (xs.toList.drop i)→BD w F m H ds (ys.toList.drop i)→B6 n cs ds=some r →
  (Op.eqFields (d+1+1) xs ys fs).run P w = .ok r w:=by
 intro fs;induction fs with
  |nil=>
   intro i n cs ds r hok hc hd he;cases hok;cases cs with
    |cons c cs=>simp[B6]at he
    |nil=>
     cases ds with
      |cons c cs=>simp[B6]at he
      |nil=>simp only[B6,AXa]at he;subst he;simp[Op.eqFields]
  |cons f fs ih=>
   intro i n cs ds r hok hc hd he;unfold Oa at hok;split at hok;cases hok;rename_i hno;simp only[AXd,bne_iff_ne,AXc]at hno;obtain⟨hn,ho⟩:=hno
   have go:∀ (v u:Value) (n1 n2:List Bool) (cs1 cs2 ds1 ds2:List AV) (q r':Bool) (j:Nat),Oa P fs (i+j)=some n2→BD w F m H cs2 (xs.toList.drop (i+j))→BD w F m H ds2 (ys.toList.drop (i+j))→B6 n2 cs2 ds2=some r' →
     (part f.type xs f.offset).run P w = .ok v w→(part f.type ys f.offset).run P w = .ok u w→(Op.equalIn (d+1+1) f.type v u).run P w = .ok q w→(Op.eqFields (d+1+1) xs ys (f::fs)).run P w = .ok (q&&r') w:=by
    intro v u n1 n2 cs1 cs2 ds1 ds2 q r' j h1 h2 h3 h4 p1 p2 h5
    have h6:=ih (i+j) n2 cs2 ds2 r' h1 h2 h3 h4
    simp only[Op.eqFields,hn,ne_eq,not_false_eq_true,AX9,Sem.run_bind,p1,Result.andThen_ok,p2,h5,Sem.run_ite]
    cases q
    all_goals simp_all
   split at hok;rename_i hsc;obtain⟨n2,h2,rfl⟩:=AXm.1 hok;cases cs with
    |nil=>cases hf:IY P f.type<;>rw[hf]at he<;>simp[B6]at he
    |cons c cs=>
     cases ds with
      |nil=>cases hf:IY P f.type<;>rw[hf]at he<;>simp[B6]at he
      |cons e ds=>
       unfold BD at hc hd;obtain⟨v,vs,e1,hv,hvs⟩:=hc;obtain⟨u,us,e2,hu,hus⟩:=hd;have g1:xs[i]? = some v:=by
        have:=AYh (·[0]?) e1
        grind
       have g2:ys[i]? = some u:=by
        have:=AYh (·[0]?) e2
        grind
       have n1:xs.toList.drop (i+1)=vs:=by have:=AYh (List.drop 1) e1;simpa only[AZA,AY8,AY2]using this
       have n3:ys.toList.drop (i+1)=us:=by have:=AYh (List.drop 1) e2;simpa only[AZA,AY8,AY2]using this
       have hag:Ew P f.type=some false:=by rcases Ck hsc with⟨k,hk,_⟩|⟨hk,_⟩<;>simp[Ew,hk]
       have p1:(part f.type xs f.offset).run P w = .ok v w:=by rw[ho];simp[part,DE hag,g1]
       have p2:(part f.type ys f.offset).run P w = .ok u w:=by rw[ho];simp[part,DE hag,g2]
       rcases Me he with⟨j,a,b,r',hk,rfl,rfl,h4,rfl⟩|⟨a,b,r',hk,rfl,rfl,h4,rfl⟩
       have v1:=Bn hv;have v2:=Bn hu;subst v1 v2;rcases Ck hsc with⟨k,hk1,_⟩|⟨_,hk2⟩
       rw[D_];exact go _ _ [] n2 [] cs [] ds _ _ 1 h2 (by grind) (by grind) h4 p1 p2 (run_equalIn_int w _ f.type j k a b hk1);grind;have v1:=Da hv;have v2:=Da hu;subst v1 v2;rcases Ck hsc with⟨k,_,hk2⟩|⟨hk1,_⟩
       grind;exact go _ _ [] n2 [] cs [] ds _ _ 1 h2 (by grind) (by grind) h4 p1 p2 (run_equalIn_bool' w _ f.type a b hk1)
   split at hok;rename_i gs hu;split at hok;rename_i hg;simp only[AXd,AYj,AXc]at hg;obtain⟨hst,hge,hsz⟩:=hg;obtain⟨n2,h2,rfl⟩:=AXm.1 hok;obtain⟨cs1,cs2,ds1,ds2,r1,r2,rfl,rfl,l1,l2,q1,q2,rfl⟩:=sg he;obtain⟨x1,x2,ex,hx1,hx2⟩:=ZR hc;obtain⟨y1,y2,ey,hy1,hy2⟩:=ZR hd;have lx:=Ba hx1;have ly:=Ba hy1;have lg:(gs.toList.map fun g=>IY P g.type).length=gs.size:=by simp
   rw[lg]at l1 l2;have hag:Ew P f.type=some true:=by simp[Ew,hu]
   have hfo:P.fieldsOf f.type=gs:=by simp[Program.fieldsOf,hu]
   have tk:∀ (zs:Array Value) (z1 z2:List Value),zs.toList.drop i=z1++z2→z1.length=gs.size→(zs.extract i (i+gs.size)).toList=z1∧zs.toList.drop (i+gs.size)=z2:=by intro zs z1 z2 hz hl;constructor;rw[Array.toList_extract,AZ6,hz,Nat.add_sub_cancel_left,← hl,AZ7];rfl;rw[← AZA,hz,← hl,List.drop_left'];rfl
   obtain⟨t1,t2⟩:=tk xs x1 x2 ex (by omega);obtain⟨t3,t4⟩:=tk ys y1 y2 ey (by omega);have hso:(sizeOf f.type).run P w = .ok gs.size w:=by obtain⟨ii,hi1,hi2⟩:=AXm.1 hsz;rw[run_sizeOf hi1,hi2]
   have p1:(part f.type xs f.offset).run P w = .ok (.agg (xs.extract i (i+gs.size))) w:=by rw[ho];simp[part,DE hag,hso]
   have p2:(part f.type ys f.offset).run P w = .ok (.agg (ys.extract i (i+gs.size))) w:=by rw[ho];simp[part,DE hag,hso]
   refine go _ _ [] n2 [] cs2 [] ds2 r1 r2 gs.size h2 (by grind) (by grind) q2 p1 p2 ?_;rw[run_equalIn_agg w (d+1) f.type _ _ (by grind) hst,hfo];exact Qu d _ _ gs.toList 0 cs1 ds1 r1 hge (by rw[t1];exact hx1) (by grind) q1;grind;grind
theorem Wx{T:TypeId}{n:List Bool}(h:Ri P T=some n):∃ fs:Array Field,P.underlying T=some (.struct fs)∧P.eqGuardType P.depth T=false∧P.stoodInHeld T=false∧Oa P fs.toList 0=some n:=by unfold Ri at h;grind
theorem tY(op:BinOp)(T:TypeId)(x y:Operand)(T':TypeId):Claim P E (.binOp op T x y T'):=by
 intro R ty ρ H fz slot k r h;simp only[evalOp,DO]at h;split at h;rename_i n hse;split at h;rename_i cs ds hcx hcy hag;rw[AXd]at hag;obtain⟨fs,hu,hgt,hst,hok⟩:=Wx hse;have hfo:P.fieldsOf T=fs:=by simp[Program.fieldsOf,hu]
 have hrun:∀ (b:Bool),B6 n cs ds=some b→∀ (w:World) (F:Nat→Prop) (m:Mp) (ρc:Operand→Value),(∀ x,Rep w F m H (ρ x) (ρc x)) →
   ∃ vs us,ρc x = .agg vs∧ρc y = .agg us∧(Op.equalIn 10000 T (.agg vs) (.agg us)).run P w = .ok b w:=by
  intro b hb w F m ρc hr
  obtain⟨vs,e1⟩:=KP hag.1 (hr x)
  obtain⟨us,e2⟩:=KP hag.2 (hr y)
  have r1:=cells?_ok hcx (hr x)
  have r2:=cells?_ok hcy (hr y)
  rw[e1]at r1
  rw[e2]at r2
  refine⟨vs,us,e1,e2,?_⟩
  rw[run_equalIn_agg w 9999 T vs us (by grind) hst,hfo]
  exact AAd 9997 vs us fs.toList 0 n cs ds b hok (by simpa [Value.cells]using r1) (by simpa [Value.cells]using r2) hb
 split at h;rename_i b hb;refine⟨_,_,h,fun R' k'=>by simp only[evalOp,DO,hse,hcx,hcy,hag.1,hag.2,AYb,hb],BB fun w F m ρc o hop hty hi hr=>⟨.bool b,?_,B4 _⟩⟩;obtain⟨vs,us,e1,e2,e3⟩:=hrun b hb w F m ρc hr;simp[execOp,hop,e1,e2,run_eqGuard_agg w _ T x y vs us hgt,run_eql_struct w T vs us,e3];rename_i b hb;refine⟨_,_,h,fun R' k'=>by simp only[evalOp,DO,hse,hcx,hcy,hag.1,hag.2,AYb,hb],BB fun w F m ρc o hop hty hi hr=>⟨.bool (!b),?_,B4 _⟩⟩;obtain⟨vs,us,e1,e2,e3⟩:=hrun b hb w F m ρc hr;simp[execOp,hop,e1,e2,run_eqGuard_agg w _ T x y vs us hgt,run_neq_struct w T vs us,e3];grind;grind;rename_i hse;split at h;rename_i j a j' b hx hy;split at h;split at h;rename_i n hn;refine⟨_,_,h,fun R' k'=>by simp only[evalOp,DO,hse,hx,hy,hn],BB fun w F m ρc o hop hty hi hr=>⟨.int j n,?_,Bd _ _⟩⟩;have e1:=Bn (hx▸hr x);have e2:=Bn (hy▸hr y);rw[jC]at hn;unfold AHS at hn;split at hn;cases hn;simp only[AXa]at hn;subst hn;simp[execOp,G6,binOp,Op.shift, *];grind;split at h;rename_i n hn;refine⟨_,_,h,fun R' k'=>by simp only[evalOp,DO,hse,hx,hy,hn],BB fun w F m ρc o hop hty hi hr=>⟨.int j n,?_,Bd _ _⟩⟩;have e1:=Bn (hx▸hr x);have e2:=Bn (hy▸hr y);rw[Rj]at hn;unfold oe at hn;split at hn;cases hn;simp only[AXa]at hn;subst hn;simp[execOp,G6,binOp,Op.shift, *];grind;split at h;rename_i hj;split at h;rename_i n hn;refine⟨_,_,h,fun R' k'=>by simp only[evalOp,DO,hse,hx,hy,hn,hj],BB fun w F m ρc o hop hty hi hr=>⟨.int j n,?_,Bd _ _⟩⟩;have e1:=Bn (hx▸hr x);have e2:=Bn (hy▸hr y);simp only[AXc]at hj;subst hj;rw[OQ]at hn;unfold jZ at hn;split at hn;cases hn;simp only[AXa]at hn;subst hn;simp[execOp,G6,binOp,Op.intDiv, *];grind;grind;split at h;rename_i hj;split at h;rename_i n hn;refine⟨_,_,h,fun R' k'=>by simp only[evalOp,DO,hse,hx,hy,hn,hj],BB fun w F m ρc o hop hty hi hr=>⟨.int j n,?_,Bd _ _⟩⟩;have e1:=Bn (hx▸hr x);have e2:=Bn (hy▸hr y);simp only[AXc]at hj;subst hj;rw[XR]at hn;unfold yU at hn;split at hn;cases hn;simp only[AXa]at hn;subst hn;simp[execOp,G6,binOp,Op.intDiv, *];grind;grind;rename_i h1 h2 h3 h4;split at h;rename_i v hj hv;refine⟨_,_,h,fun R' k' => ?_,BB fun w F m ρc o hop hty hi hr => ?_⟩;simp only[evalOp,DO,hse,hx,hy];grind;have e1:=Bn (hx▸hr x);have e2:=Bn (hy▸hr y);simp only[AXc]at hj;subst hj;obtain⟨u,q1,q2⟩:=xy (P:=P) hv T w;exact⟨u,by simp[execOp,hop,e1,e2,G6,q1],q2 _ _ _⟩;grind;rename_i a b hx hy;split at h;rename_i hu;refine⟨_,_,h,fun R' k'=>by simp only[evalOp,DO,hse,hx,hy,hu],BB fun w F m ρc o hop hty hi hr=>⟨.bool (a==b),?_,B4 _⟩⟩;have e1:=Da (hx▸hr x);have e2:=Da (hy▸hr y);simp[execOp,hop,e1,e2,Qt,run_eql_bool w T a b hu];rename_i hu;refine⟨_,_,h,fun R' k'=>by simp only[evalOp,DO,hse,hx,hy,hu],BB fun w F m ρc o hop hty hi hr=>⟨.bool (!(a==b)),?_,B4 _⟩⟩;have e1:=Da (hx▸hr x);have e2:=Da (hy▸hr y);simp[execOp,hop,e1,e2,Qt,run_neq_bool w T a b hu];grind;rename_i a b hx hy;have hstr:∀ {w:World} {F:Nat→Prop} {m:Mp} {ρc:Operand→Value},(∀ x,Rep w F m H (ρ x) (ρc x))→∃ s s',ρc x = .string s∧ρc y = .string s'∧(s.toList==s'.toList)=seq? a b:=by intro w F m ρc hr;have r1:=hx▸hr x;have r2:=hy▸hr y;unfold Rep at r1 r2;obtain⟨s,e1,rfl⟩:=r1;obtain⟨s',e2,rfl⟩:=r2;refine⟨s,s',e1,e2,?_⟩;rw[seq_eq];exact(tq s s').symm
 split at h;refine⟨_,_,h,fun R' k'=>by simp only[evalOp,DO,hse,hx,hy],BB fun w F m ρc o hop hty hi hr=>⟨.bool (seq? a b),?_,B4 _⟩⟩;obtain⟨s,s',e1,e2,e3⟩:=hstr hr;simp[execOp,hop,e1,e2,Qs,binOp_string_eql,e3];refine⟨_,_,h,fun R' k'=>by simp only[evalOp,DO,hse,hx,hy],BB fun w F m ρc o hop hty hi hr=>⟨.bool (!(seq? a b)),?_,B4 _⟩⟩;obtain⟨s,s',e1,e2,e3⟩:=hstr hr;simp[execOp,hop,e1,e2,Qs,binOp_string_neq,e3];grind;rename_i a hx hy;have hif:∀ {w:World} {F:Nat→Prop} {m:Mp} {ρc:Operand→Value},(∀ x,Rep w F m H (ρ x) (ρc x))→ρc x=Ji a∧ρc y = .nilIface:=by intro w F m ρc hr;have r1:=hx▸hr x;have r2:=hy▸hr y;unfold Rep at r1 r2;exact⟨r1,r2⟩
 have hg:∀ {w:World} (op:BinOp),isConst y=true→(eqGuard op T x y (Ji a) .nilIface).run P w = .ok () w:=by
  intro w op hc;rcases a with _|⟨U,l⟩
  cases y<;>simp only[isConst,AXw]at hc;simp only[Ji,eqGuard_nil_constR];rfl;simp only[Ji,eqGuard_at_iface];rfl
 split at h;rename_i ms hu hc;refine⟨_,_,h,fun R' k'=>by simp only[evalOp,DO,hse,hx,hy,hu,hc],BB fun w F m ρc o hop hty hi hr=>⟨.bool a.isNone,?_,B4 _⟩⟩;obtain⟨e1,e2⟩:=hif hr;have hms:P.underlying T=some (.interface (P.methodsAt T)):=by unfold Program.methodsAt;rw[hu]
 have hb:(binOp .eql T (Ji a) .nilIface).run P w = .ok (.bool a.isNone) w:=by
  rcases a with _|⟨U,l⟩
  exact run_eql_nil_nil w T hms;exact run_eql_held_nil w T U _ hms
 simp[execOp,hop,e1,e2,hg _ hc,hb];rename_i ms hu hc;refine⟨_,_,h,fun R' k'=>by simp only[evalOp,DO,hse,hx,hy,hu,hc],BB fun w F m ρc o hop hty hi hr=>⟨.bool (!a.isNone),?_,B4 _⟩⟩;obtain⟨e1,e2⟩:=hif hr;have hms:P.underlying T=some (.interface (P.methodsAt T)):=by unfold Program.methodsAt;rw[hu]
 have hb:(binOp .neq T (Ji a) .nilIface).run P w = .ok (.bool (!a.isNone)) w:=by
  rcases a with _|⟨U,l⟩
  exact run_neq_nil_nil w T hms;exact run_neq_held_nil w T U _ hms
 simp[execOp,hop,e1,e2,hg _ hc,hb];grind;grind
theorem ABQ(op:UnOp)(T:TypeId)(x:Operand):Claim P E (.unOp op T x):=by intro R ty ρ H fz slot k r h;simp only[evalOp,Se]at h;split at h;rename_i b hx;refine⟨_,_,h,fun R' k'=>by simp only[evalOp,Se,hx],BB fun w F m ρc o hop hty hi hr=>⟨.bool (!b),?_,B4 _⟩⟩;have e1:=Da (hx▸hr x);simp[execOp,hop,e1,Op.unary];rename_i j n hx;refine⟨_,_,h,fun R' k'=>by simp only[evalOp,Se,hx],BB fun w F m ρc o hop hty hi hr=>⟨.int j (j.wrap (0-n)),?_,Bd _ _⟩⟩;have e1:=Bn (hx▸hr x);simp[execOp,hop,e1,Op.unary,Op.intArith];grind
theorem G0{T:TypeId}{j:IntKind}(h:K6 P T=some j):P.underlying T=some (.int j):=by unfold K6 at h;grind
theorem ZC(fn:Fn)(first cs:Array Operand):Claim P E (.makeFunc fn first cs):=by
 intro R ty ρ H fz slot k r h;cases fn with
  |func f=>
   simp only[evalOp,E_]at h;split at h;rename_i hf;refine⟨_,_,h,fun R' k'=>by simp only[evalOp,E_,hf],BB fun w F m ρc o hop hty hi hr=>⟨.func (.func f) #[] (cs.map ρc),?_,?_⟩⟩;have:first = #[]:=by grind
   subst this;simp[execOp,hop,Instr.makeFunc];unfold Rep;refine⟨_,rfl,?_⟩;rw[AYy];exact Dy (by simp) fun i c v hc hv=>by grind
   rename_i y ys hf;split at h;rename_i hcs;refine⟨_,_,h,fun R' k'=>by simp only[evalOp,E_,hf,hcs],BB fun w F m ρc o hop hty hi hr=>⟨.func (.func f) (first.map ρc) #[],?_,?_⟩⟩;have:cs = #[]:=by grind
   subst this;simp[execOp,hop,Instr.makeFunc];unfold Rep;refine⟨_,rfl,?_⟩;rw[AYy,← hf];exact Dy (by simp) fun i c v hc hv=>by grind
   grind
  |_=>simp[evalOp,E_]at h
theorem bP(T:TypeId)(o:Option Operand):Claim P E (.makeMap T o):=by
 intro R ty ρ H fz slot k r h;cases o with
  |some x=>simp[evalOp,H0]at h
  |none=>
   simp only[evalOp,H0]at h;split at h;rename_i a b hu;split at h;rename_i j e t hE hj hsl;split at h;rename_i hf;refine⟨_,_,h,fun R' k'=>by simp only[evalOp,H0,hu,hE,hj,hsl,hf],Bm fun w F m ρc o hop hty hi hr => ?_⟩;obtain⟨_,_,hpos⟩:=Cg hsl
   have hg:=BQ.AWw (w':=w.alloc (.map #[] 0)) hi hf (T:=.map j []) (e:=e) (t:=t) (n:=0) (some (w.heap.size,0)) rfl rfl rfl (by simp) (fun b hb=>Below.heap_alloc w _ b hb)
    (fun b c h=>by grind) hpos
    ⟨hpos,#[],0,heap_alloc_new w _,⟨rfl,fun i e h=>by simp at h⟩,rfl,.inl rfl,fun k h=>by cases h⟩
    (fun k hk=>absurd hk (Nat.not_lt_zero k))
   refine⟨.map (some w.heap.size),_,F,_,by simp[execOp,hop,Instr.makeMap],hg,?_⟩;unfold Rep;have hlt:=BU (B9 hf).1;rw[show Cy { objs:=[(slot,.rows (.map j []) e t [] 0 none)] } H=H.set slot (.rows (.map j []) e t (List.replicate 0 ([]:List t.den)) 0 none)from rfl,Bj hlt,Ke];exact⟨_,_,rfl,rfl⟩;grind;rename_i hno;split at h;rename_i ta tb ha hb;split at h;rename_i hf;refine⟨_,_,h,fun R' k'=>by simp only[evalOp,H0,hu,ha,hb,hf],Bm fun w F m ρc o hop hty hi hr => ?_⟩
   have hg:=BQ.new (w':=w.alloc (.map #[] 0)) hi hf (ob:=.map ta tb []) trivial (some (w.heap.size,0)) rfl rfl rfl (by simp) (fun b hb=>Below.heap_alloc w _ b hb)
    (fun b c h=>by grind)
    (fun _=>⟨w.heap.size,0,#[],0,rfl,heap_alloc_new w _,rfl,rfl,fun i e h=>by simp at h⟩)
   refine⟨.map (some w.heap.size),_,F,_,by simp[execOp,hop,Instr.makeMap],hg,?_⟩;unfold Rep;have hlt:=BU (B9 hf).1;rw[show Cy { objs:=[(slot,.map ta tb [])] } H=H.set slot (.map ta tb [])from rfl,Bj hlt,BX];exact⟨_,_,rfl,rfl⟩;grind;grind;grind
theorem AAC(b:Bool)(t:Ty):zeroCells (t.made b)=zeroCells t:=by cases t<;>cases b<;>rfl
theorem AI8(b:Bool)(t:Ty):(t.made b).size=t.size:=by cases t<;>cases b<;>rfl
theorem VR(T:TypeId)(x y:Operand):Claim P E (.makeSlice T x y):=by
 intro R ty ρ H fz slot k r h;simp only[evalOp,G5]at h;split at h;rename_i e t hsl;split at h;rename_i zz j l j' c hz hx hy;split at h;rename_i hfit;split at h;rename_i hf;refine⟨_,_,h,fun R' k'=>by simp only[evalOp,G5,hsl,hz,hx,hy,hfit,hf],Bm fun w F m ρc o hop hty hi hr => ?_⟩;obtain⟨hu,hty0,hpos⟩:=Cg hsl;obtain⟨t',cs'⟩:=zz;obtain⟨hty',hcs',i,z,hi0,hz0,hok,hsz,hza⟩:=CU hz;subst hcs';have:t'=t:=by grind
 subst this;simp only[AXd,Hz,BZ,AXc,hi0,AY5,AX5]at hfit;obtain⟨⟨⟨⟨a1,a2⟩,a3,a4⟩,a5⟩,a6⟩:=hfit;have e1:=Bn (hx▸hr x);have e2:=Bn (hy▸hr y);obtain⟨l',rfl⟩:=AXr a1;obtain⟨c',rfl⟩:=AXr a3;have hbb:(i.bytes:Int)*(c':Int)≤281474976710656:=by have:i.bytes*c'≤65536*4294967296:=AZs a6 (by omega);omega
 have hrun:=run_make (P:=P) w T e i z hu hi0 hz0 j j' l' c' a1 a5 hbb (by omega);simp only[AYG]at hrun;have a5':(l':Int)≤(c':Int):=a5;have a4':(c':Int)≤4294967296:=a4;have hle:l'≤c':=by omega
 cases hrw:(match E.rows,sliceAt P e with|true,some q=>some q|_,_=>none)with
  |some q=>
   obtain⟨er,t2⟩:=q;have hme:Od P E e t' (A3 (l':Int)) = .rows (.arr e) er t2 (List.replicate l' []) 0 none:=by unfold Od;split at hrw;rename_i q' h1 h2;cases hrw;rw[h1,h2];rfl;grind
   have hs2:sliceAt P e=some (er,t2):=by grind
   obtain⟨hu2,hty2,hpos2⟩:=Cg hs2;have htt:∃ y,t' = .slice y:=by unfold iO UR at hty0;rw[hu2]at hty0;simp only[AXm]at hty0;grind
   obtain⟨y,rfl⟩:=htt;have hz1:z.cells.toList=[.slice none 0 0]:=by have:=CN (w:=w) (F:=F) (.nul y) _ hok;exact this
   have hsz1:i.size=1:=hsz;have hzl:z.cells.size=1:=by rw[← AX0,hz1];rfl
   have hmade:(madeCells z.cells (c'*i.size)).toList=List.replicate c' (.slice none 0 0):=by
    have:=Db z.cells c';rw[hzl,AZ0]at this;rw[hsz1,AZ0];have h2:(madeCells z.cells c').toList=(List.replicate c' z.cells.toList).flatten:=by unfold madeCells;grind
    simp_all
   have hhp:=heap_alloc_new w (.cells (madeCells z.cells (c'*i.size)) e)
   have hg:=BQ.AWw (w':=w.alloc (.cells (madeCells z.cells (c'*i.size)) e)) hi hf (T:=.arr e) (e:=er) (t:=t2) (n:=l') (some (w.heap.size,c')) rfl rfl rfl (by simp) (fun b hb=>Below.heap_alloc w _ b hb)
    (fun b c h=>by grind) hpos2
    ⟨hpos2,_,hhp,by grind,by simp only[maxLen];omega,by rw[size_madeCells,hsz1,AZ0],fun u hu=>by
     rw[hmade]at hu
     rw[AZ9 hu];rfl⟩
    (fun k hk=>⟨_,_,none,rfl,_,hhp,by grind⟩)
   refine⟨.slice (some ⟨w.heap.size,0,none⟩) l' c',w.alloc (.cells (madeCells z.cells (c'*i.size)) e),F,(Nm m slot (some (w.heap.size,c')) fun _=>none),by simp[execOp,hop,e1,e2,hrun],(?_:BQ w F m H fz (w.alloc (.cells (madeCells z.cells (c'*i.size)) e)) F (Nm m slot (some (w.heap.size,c')) fun _=>none) (H.set slot (Od P E e (.slice y) (A3 (l':Int)))) fz),?_⟩;grind;show Rep _ _ _ (H.set slot (Od P E e (.slice y) (A3 (l':Int)))) _ _;rw[hme];unfold Rep;rw[Bj (BU (B9 hf).1),Ke];simp only[Bq,AYv]
  |none=>
   have hme:Od P E e t' (A3 (l':Int)) = .arr e (t'.made E.keep) (DD (A3 (l':Int)) (t'.made E.keep).zero):=by unfold Od;grind
   rw[hme];rw[← AAC E.keep t']at hok;rw[← AI8 E.keep t']at hpos hsz;generalize t'.made E.keep=t' at *;have hzd:=CN (w:=w) (F:=F) t' _ hok;have hzl:z.cells.size=t'.size:=by rw[← AX0];exact Dat.length t' hzd
   have hmade:(madeCells z.cells (c'*i.size)).toList=(List.replicate c' z.cells.toList).flatten:=by have:=Db z.cells c';rw[hzl,← hsz]at this;exact(by unfold madeCells;grind)
   have hrow:=FP (w:=w) (F:=F) hzd l';have hrl:=Bv (fun x cs (h:Dat w F t' x cs)=>Dat.length t' h) hrow;rw[AYv]at hrl
   obtain⟨m',hg,hrep⟩:=FZ hi hf (w':=w.alloc (.cells (madeCells z.cells (c'*i.size)) e)) hpos (xs:=List.replicate l' t'.zero) (heap_alloc_new w _) rfl rfl rfl (by simp) (fun b hb=>Below.heap_alloc w _ b hb)
    (cap:=c') (by grind) (by simp only[maxLen];omega) (by rw[size_madeCells,hsz]) hrow (by
     rw[hmade,hrl]
     have:c'=l'+(c'-l'):=by omega
     rw[this,← List.replicate_append_replicate,AZ2,AaO,AY7 (by omega),hrl]
     simp)
   rw[AYv]at hrep;exact⟨_,_,F,m',by simp[execOp,hop,e1,e2,hrun],hg,hrep⟩
 grind;grind;grind;grind
end
end Go.Pev
end
section
namespace Go.Pev
open Go.RowKit
section
variable {P:Program} {E:Env}
theorem Hm{α:Type}{xs ys:List α}{l h:Int}(e:Cv xs l h=some ys):0≤l∧l≤h∧h≤xs.length∧ys=(xs.take h.toNat).drop l.toNat:=by rw[NN]at e;unfold cn at e;split at e;rename_i hc;simp only[AXa]at e;exact⟨hc.1,hc.2.1,hc.2.2,e.symm⟩;cases e
theorem BK{α:Type}{xs:List α}{i:Int}{x:α}(e:idx xs i=some x):0≤i∧i<xs.length∧xs[i.toNat]? = some x:=by rw[idx_eq]at e;unfold YX at e;split at e;cases e;rename_i hc;have:=(AYJ.1 e).1;exact⟨by omega,by omega,e⟩
theorem K_{w:World}{F:Nat→Prop}{m:Mp}{H:List Ob}{v:AV}{n:Int}(h:eZ v=some n){u:Value}(hr:Rep w F m H v u):∃ k,u = .int k n:=by unfold eZ at h;split at h;simp only[AXa]at h;subst h;exact⟨_,Bn hr⟩;cases h
theorem MK{w:World}{F:Nat→Prop}{m:Mp}{H:List Ob}{ρ:Operand→AV}{ρc:Operand→Value}(hr:∀ x,Rep w F m H (ρ x) (ρc x)){o:Option Operand}{l:Option Int}(h:E8 ρ o=some l):
  (o.map ρc=none∧l=none)∨∃ k n,o.map ρc=some (.int k n)∧l=some n:=by unfold E8 at h;split at h;simp only[AXa]at h;exact .inl ⟨rfl,h.symm⟩;rename_i x;simp only[AXm]at h;obtain⟨n,h1,rfl⟩:=h;obtain⟨k,h2⟩:=K_ h1 (hr x);exact .inr ⟨k,n,by simp[h2],rfl⟩
theorem D4{w:World}{T e:TypeId}{i:TypeInfo}(hu:P.underlying T=some (.slice e))(hi:P.info? e=some i)(a:Option Addr)(len cap:Nat){lo hi':Option Value}{l h:Int}
  (hlo:(lo=none∧l=0)∨∃ k,lo=some (.int k l)) (hhi:(hi'=none∧h=len)∨∃ k,hi'=some (.int k h)) (h0:0≤l) (h1:l≤h) (h2:h≤cap) (h3:len≤cap) :
  (Instr.sliceAt T (.slice a len cap) lo hi' none).run P w = .ok (.slice (if cap=l.toNat then a else a.map (·.add (l.toNat*i.size))) (h.toNat-l.toNat) (cap-l.toNat)) w:=by
 have hb:(Instr.sliceBounds true len cap lo hi' none).run P w = .ok (l.toNat,h.toNat,cap) w:=by
  obtain⟨l,rfl⟩:=AXr h0;obtain⟨h,rfl⟩:=AXr (show 0≤h by omega);have h1:l≤h:=by omega
  have h2:h≤cap:=by omega
  rcases hhi with⟨rfl,e1⟩|⟨k,rfl⟩<;>rcases hlo with⟨rfl,e2⟩|⟨k',rfl⟩
  have e3:l=0:=by omega
  have e4:h=len:=by omega
  subst e3;subst e4;simp[Instr.sliceBounds];have e4:h=len:=by omega
  subst e4;simp[Instr.sliceBounds,Instr.sliceBound,asIntOf,h1];have e3:l=0:=by omega
  subst e3;simp[Instr.sliceBounds,Instr.sliceBound,asIntOf,h2];simp[Instr.sliceBounds,Instr.sliceBound,asIntOf,h1,h2]
 simp only[Instr.sliceAt,Sem.run_bind,run_underlying hu,Result.andThen_ok,Instr.slice,hb,run_sizeOf hi,Sem.run_pure]
theorem XJ{w:World}(n:Nat){lo hi':Option Value}{l h:Int}
  (hlo:(lo=none∧l=0)∨∃ k,lo=some (.int k l)) (hhi:(hi'=none∧h=n)∨∃ k,hi'=some (.int k h)) (h0:0≤l) (h1:l≤h) (h2:h≤n) :
  (Instr.sliceBounds false n n lo hi' none).run P w = .ok (l.toNat,h.toNat,n) w:=by
 obtain⟨l,rfl⟩:=AXr h0;obtain⟨h,rfl⟩:=AXr (show 0≤h by omega);have h1:l≤h:=by omega
 have h2:h≤n:=by omega
 rcases hhi with⟨rfl,e1⟩|⟨k,rfl⟩<;>rcases hlo with⟨rfl,e2⟩|⟨k',rfl⟩
 have e3:l=0:=by omega
 have e4:h=n:=by omega
 subst e3;subst e4;simp[Instr.sliceBounds];have e4:h=n:=by omega
 subst e4;simp[Instr.sliceBounds,Instr.sliceBound,asIntOf,h1];have e3:l=0:=by omega
 subst e3;simp[Instr.sliceBounds,Instr.sliceBound,asIntOf,h2];simp[Instr.sliceBounds,Instr.sliceBound,asIntOf,h1,h2]
theorem Oe{w:World}{F:Nat→Prop}{m:Mp}{H:List Ob}{ρ:Operand→AV}{ρc:Operand→Value}(hr:∀ x,Rep w F m H (ρ x) (ρc x)){o:Option Operand}{l:Option Int}(h:E8 ρ o=some l)(d:Int):
  (o.map ρc=none∧l.getD d=d)∨∃ k,o.map ρc=some (.int k (l.getD d)):=by
 rcases MK hr h with⟨h1,rfl⟩|⟨k,n,h1,rfl⟩
 exact .inl ⟨h1,rfl⟩;exact .inr ⟨k,h1⟩
theorem E9{w w':World}{ρc:Operand→Value}{o:Oper}{T:TypeId}{x:Operand}{lo up:Option Operand}{v u:Value}(hop:o.op = .slice T x lo up none)(e1:ρc x=v)
  (hrun:(Instr.sliceAt T v (lo.map ρc) (up.map ρc) none).run P w = .ok u w'):(execOp ρc o).run P w = .ok (.value u) w':=by simp[execOp,hop,e1,hrun]
theorem Sm(T:TypeId)(x:Operand)(lo up:Option Operand):Claim P E (.slice T x lo up none):=by
 intro R ty ρ H fz slot k r h;simp only[evalOp,DN]at h;split at h;rename_i e hu;split at h;rename_i l h' hl hh;unfold Gc at h;split at h;rename_i t xs hx;split at h;rename_i hsz;split at h;cases h;rename_i ys hs;refine⟨_,_,h,fun R' k'=>by simp only[evalOp,DN,hu,hl,hh,Gc,hx,hsz,hs],BB fun w F m ρc o hop hty hi hr => ?_⟩;obtain⟨a1,a2,a3,rfl⟩:=Hm hs;simp only[AXc]at hsz;obtain⟨i,hi0,hsz'⟩:=Bs hsz;have hrx:=hr x;rw[hx]at hrx;have hrx:Dat w F (.slice t) xs [ρc x]:=hrx;obtain⟨a,cap,e1,e2,e3⟩:=hrx;simp only[AXz,AZv]at e1;have hrun:=D4 (P:=P) (w:=w) hu hi0 a (List.length (α:=t.den) xs) cap (Oe hr hl 0) (Oe hr hh (A4 xs)) a1 a2 (by omega) e2;refine⟨_,E9 hop e1 hrun,?_⟩;have hlen:((xs.take (h'.getD (A4 xs)).toNat).drop (l.getD 0).toNat).length=(h'.getD (A4 xs)).toNat-(l.getD 0).toNat:=by rw[AYn,AYX];omega
 show Dat w F (.slice t) _ [_];refine⟨_,_,by rw[hlen],by rw[hlen];omega,fun hne => ?_⟩;have hpos:(l.getD 0).toNat<(h'.getD (A4 xs)).toNat:=by rcases AZd (l.getD 0).toNat (h'.getD (A4 xs)).toNat with hh'|hh';exact hh';exact absurd (AX7 (by rw[hlen];omega)) hne
 have hxne:xs≠[]:=by rintro rfl;simp at hne
 obtain⟨ad,row,q1,q2,q3,q4⟩:=e3 hxne;have hk:=fun(x:t.den) cs (h:Dat w F t x cs)=>Dat.length t h;refine⟨ad.add ((l.getD 0).toNat*t.size),_,?_,by rw[H5];exact q2,Hp hk (l.getD 0).toNat (EZ hk (h'.getD (A4 xs)).toNat q3),fun j u hu' => ?_⟩;rw[AXo (by omega),q1,hsz'];rfl;rw[add_add];rw[AZ8,AZk]at hu';split at hu';exact q4 _ u hu';cases hu';cases h;rename_i t hx;split at h;rename_i hss;split at h;rename_i ys hs;refine⟨_,_,h,fun R' k'=>by simp only[evalOp,DN,hu,hl,hh,Gc,hx,hss,hs],BB fun w F m ρc o hop hty hi hr => ?_⟩;obtain⟨a1,a2,a3,_⟩:=Hm hs;obtain⟨sz,hsz⟩:=AYc.1 hss;obtain⟨i,hi0,hsz'⟩:=Bs hsz;have hrx:=hr x;rw[hx]at hrx;unfold Rep at hrx;simp only[AXs]at a3;have hrun:=D4 (P:=P) (w:=w) hu hi0 none 0 0 (Oe hr hl 0) (Oe hr hh 0) a1 a2 a3 (AXl _);refine⟨_,E9 hop hrx hrun,?_⟩;unfold Rep;have h1:(l.getD 0).toNat=0:=by omega
 have h2:(h'.getD 0).toNat=0:=by omega
 rw[h1,h2];rfl;cases h;cases h;rename_i id hx;split at h;rename_i T' t xs ho;split at h;rename_i hsz;split at h;cases h;rename_i ys hs;refine⟨_,_,h,fun R' k'=>by simp only[evalOp,DN,hu,hl,hh,Gc,hx,ho,hsz,hs],BB fun w F m ρc o hop hty hi hr => ?_⟩;obtain⟨a1,a2,a3,rfl⟩:=Hm hs;simp only[AXc]at hsz;obtain⟨i,hi0,hsz'⟩:=Bs hsz;have hrx:=hr x;rw[hx]at hrx;unfold Rep at hrx;rw[ho]at hrx;have hlen:((xs.take (h'.getD (A4 xs)).toNat).drop (l.getD 0).toNat).length=(h'.getD (A4 xs)).toNat-(l.getD 0).toNat:=by rw[AYn,AYX];omega
 obtain⟨hpos,hob⟩:=hi.obj id _ ho;cases hm:m id with
  |none=>
   rw[hm]at hrx hob;obtain⟨a,e1⟩:=hrx;simp only at hob;subst hob;have hrun:=D4 (P:=P) (w:=w) hu hi0 a 0 0 (Oe hr hl 0) (Oe hr hh (A4 ([]:List t.den))) a1 a2 (by simpa using a3) (AXl _);refine⟨_,E9 hop e1 hrun,?_⟩;unfold Rep;rw[ho,hm];simp only[AXs]at a3;have q1:(l.getD 0).toNat=0:=by omega
   have q2:(h'.getD (A4 ([]:List t.den))).toNat=0:=by omega
   rw[q1,q2];exact And.intro (by simp[A3,q1,A4]) ⟨_,by simp[A3,A4];rfl⟩
  |some p=>
   obtain⟨b,cap⟩:=p;rw[hm]at hrx hob;obtain⟨vs,row,e1,e2,_⟩:=hob;simp only[Bq]at hrx;have hrun:=D4 (P:=P) (w:=w) hu hi0 (some ⟨b,0,none⟩) (List.length (α:=t.den) xs) cap (Oe hr hl 0) (Oe hr hh (A4 xs)) a1 a2 (by omega) e2;refine⟨_,E9 hop hrx hrun,?_⟩;unfold Rep;rw[ho,hm];have q:A3 (A4 ((xs.take (h'.getD (A4 xs)).toNat).drop (l.getD 0).toNat))=(h'.getD (A4 xs)).toNat-(l.getD 0).toNat:=by unfold A3 A4;rw[AYG];exact hlen
   rw[q];refine⟨by unfold A3;omega,_,rfl,fun hlt => ?_⟩;unfold A3 at hlt ⊢;rw[AXo (by omega),← hsz'];simp[Cs]
 cases h;cases h;rename_i id off n hx;split at h;rename_i T' t xs ho;split at h;rename_i hsz;split at h;cases h;rename_i ys hs;refine⟨_,_,h,fun R' k'=>by simp only[evalOp,DN,hu,hl,hh,Gc,hx,ho,hsz,hs],BB fun w F m ρc o hop hty hi hr => ?_⟩;obtain⟨a1,a2,a3,rfl⟩:=Hm hs;simp only[AXc]at hsz;obtain⟨i,hi0,hsz'⟩:=Bs hsz;have hrx:=hr x;rw[hx]at hrx;unfold Rep at hrx;rw[ho]at hrx;obtain⟨hle,hrx⟩:=hrx;have hcl:(E' off n xs).length=n:=by unfold E';rw[AYX,AYn];omega
 rw[hcl]at a3;have q:A3 (A4 (((E' off n xs).take (h'.getD (n:Int)).toNat).drop (l.getD 0).toNat))=(h'.getD (n:Int)).toNat-(l.getD 0).toNat:=by unfold A3 A4;rw[AYG,AYn,AYX,hcl];omega
 obtain⟨hpos,hob⟩:=hi.obj id _ ho;cases hm:m id with
  |none=>
   rw[hm]at hrx hob;obtain⟨a,e1⟩:=hrx;simp only at hob;subst hob;have hn:n=0:=by have:=hle;simp at this;exact this.2
   subst hn;have hrun:=D4 (P:=P) (w:=w) hu hi0 a 0 0 (Oe hr hl 0) (Oe hr hh ((0:Nat):Int)) a1 a2 a3 (AXl _);refine⟨_,E9 hop e1 hrun,?_⟩;unfold Rep;rw[ho,hm,q];have q1:(l.getD 0).toNat=0:=by omega
   have q2:(h'.getD ((0:Nat):Int)).toNat=0:=by omega
   have hoff:off=0:=by have:=hle;simpa using this
   rw[q1,q2];exact And.intro (by simp[A3,q1,hoff]) ⟨_,by simp;rfl⟩
  |some p=>
   obtain⟨b,cap⟩:=p;rw[hm]at hrx hob;obtain⟨vs,row,e1,e2,_⟩:=hob;obtain⟨a,e3,e4⟩:=hrx;have hrun:=D4 (P:=P) (w:=w) hu hi0 a n (cap-off) (Oe hr hl 0) (Oe hr hh (n:Int)) a1 a2 (by omega) (by omega);refine⟨_,E9 hop e3 hrun,?_⟩;unfold Rep;rw[ho,hm,q];refine And.intro (by unfold A3;omega) ⟨if cap-off=(l.getD 0).toNat then a else a.map (·.add ((l.getD 0).toNat*i.size)),?_,fun hlt => ?_⟩
   unfold A3;congr 1;omega;unfold A3 at hlt ⊢;rw[AXo (by omega),e4 (by omega),hsz'];simp[Cs,AYr]
 cases h;cases h;cases h;cases h;rename_i n e hu;split at h;rename_i l h' id n' hmx hl hh hx;split at h;rename_i T' t xs ho;split at h;rename_i hc;split at h;cases h;rename_i ys hs;refine⟨_,_,h,fun R' k'=>by simp only[evalOp,DN,hu,hl,hh,hx,ho,hc,hs],BB fun w F m ρc o hop hty hi hr => ?_⟩;obtain⟨a1,a2,a3,rfl⟩:=Hm hs;simp only[AXd,AXc]at hc;obtain⟨rfl,hsz⟩:=hc;obtain⟨i,hi0,hsz'⟩:=Bs hsz;have hrx:=hr x;rw[hx]at hrx;unfold Rep Fp at hrx;rw[ho]at hrx;obtain⟨hlen,b,hm,e1⟩:=hrx;have hb:=XJ (P:=P) (w:=w) n' (Oe hr hl 0) ((Oe hr hh (A4 xs)).imp (fun q=>⟨q.1,q.2.trans (by unfold A4;rw[hlen])⟩) (fun q=>q)) a1 a2 (by omega);refine⟨_,E9 hop e1 (by simp only[Instr.sliceAt,Sem.run_bind,run_underlying hu,Result.andThen_ok,Instr.sureAddr,hb,run_sizeOf hi0,Sem.run_pure];rfl),?_⟩;unfold Rep;rw[ho,hm];have q:A3 (A4 ((xs.take (h'.getD (A4 xs)).toNat).drop (l.getD 0).toNat))=(h'.getD (A4 xs)).toNat-(l.getD 0).toNat:=by unfold A3;generalize h'.getD (A4 xs)=hh' at a2 a3 ⊢;unfold A4;rw[AYG,AYn,AYX];omega
 rw[q];refine And.intro (by unfold A3;omega) ⟨_,rfl,fun hlt => ?_⟩;unfold A3 at hlt ⊢;rw[AXo (by omega),hsz',Cs,AYQ];cases h;cases h;cases h;cases h
end
end Go.Pev
end
section
namespace Go.Pev
open Go.RowKit
section
variable {P:Program} {E:Env}
theorem EJ{w:World}{F:Nat→Prop}{m:Mp}{H:List Ob}{fz:List Bool}(hi:HI w F m H fz){slot:Nat}(hf:Bc H fz slot=true)(T:TypeId){t:Ty}(ht:0<t.size)(a:Option Addr):
  ∃ m',BQ w F m H fz w F m' (H.set slot (.arr T t [])) fz∧Rep w F m' (H.set slot (.arr T t [])) (.own slot) (.slice a 0 0):=by have hg:=BQ.new (w':=w) hi hf (ob:=.arr T t []) trivial none rfl rfl rfl (AXl _) (fun _ _=>rfl) (fun b c h=>by cases h) (fun _=>⟨ht,rfl⟩);refine⟨_,hg,?_⟩;unfold Rep;have hlt:=BU (B9 hf).1;rw[Bj hlt,BX];exact⟨a,rfl⟩
theorem US{w:World}{T e:TypeId}{i:TypeInfo}(hu:P.underlying T=some (.slice e))(hi:P.info? e=some i)(a:Option Addr)(len cap:Nat)(k k':IntKind):
  (Instr.sliceAt T (.slice a len cap) none (some (.int k 0)) (some (.int k' 0))).run P w = .ok (.slice a 0 0) w:=by simp[Instr.sliceAt,run_underlying hu,Instr.slice,Instr.sliceBounds,Instr.sliceBound,asIntOf,run_sizeOf hi]
theorem kE{w:World}{F:Nat→Prop}{m:Mp}{H:List Ob}{v:AV}(h:GN H v=true){u:Value}(hr:Rep w F m H v u):∃ a len cap,u = .slice a len cap:=by
 cases v with
  |data t d=>cases t<;>simp only[GN,AXw]at h;rename_i t;have hrx:Dat w F (.slice t) d [u]:=hr;obtain⟨a,cap,e1,_⟩:=hrx;grind
  |nils e=>unfold Rep at hr;grind
  |own id=>
   obtain⟨T,t,xs,ho⟩:=Ed h;unfold Rep at hr;rw[ho]at hr;cases hm:m id with
    |none=>rw[hm]at hr;obtain⟨a,e1⟩:=hr;grind
    |some p=>rw[hm]at hr;exact⟨_,_,_,hr⟩
  |win id off n=>obtain⟨T,t,xs,ho⟩:=Ed h;unfold Rep at hr;rw[ho]at hr;obtain⟨_,hr⟩:=hr;grind
  |_=>simp[GN]at h
theorem L0{w:World}{T e:TypeId}{i:TypeInfo}(hu:P.underlying T=some (.slice e))(hi:P.info? e=some i)(a:Option Addr)(len cap:Nat){lo:Option Value}{l h:Int}{kh km:IntKind}
  (hlo:(lo=none∧l=0)∨∃ k,lo=some (.int k l)) (h0:0≤l) (h1:l≤h) (h2:h≤cap) :
  (Instr.sliceAt T (.slice a len cap) lo (some (.int kh h)) (some (.int km h))).run P w = .ok (.slice (if h.toNat=l.toNat then a else a.map (·.add (l.toNat*i.size))) (h.toNat-l.toNat) (h.toNat-l.toNat)) w:=by
 have hb:(Instr.sliceBounds true len cap lo (some (.int kh h)) (some (.int km h))).run P w = .ok (l.toNat,h.toNat,h.toNat) w:=by
  obtain⟨l,rfl⟩:=AXr h0;obtain⟨h,rfl⟩:=AXr (show 0≤h by omega);have h1:l≤h:=by omega
  have h2:h≤cap:=by omega
  rcases hlo with⟨rfl,e2⟩|⟨k',rfl⟩
  have e3:l=0:=by omega
  subst e3;simp[Instr.sliceBounds,Instr.sliceBound,asIntOf,h2];simp[Instr.sliceBounds,Instr.sliceBound,asIntOf,h1,h2]
 simp only[Instr.sliceAt,Sem.run_bind,run_underlying hu,Result.andThen_ok,Instr.slice,hb,run_sizeOf hi,Sem.run_pure]
theorem VP(T:TypeId)(x:Operand)(lo up:Option Operand)(mx:Operand):Claim P E (.slice T x lo up (some mx)):=by
 intro R ty ρ H fz slot k r h;simp only[evalOp,DN]at h;split at h
 ·rename_i e hu;split at h;rename_i u;split at h;rename_i l n n' hl hn hm;split at h;rename_i t xs hx;split at h;rename_i hsz;split at h;rename_i hnn;split at h;cases h;rename_i ys hs;refine⟨_,_,h,fun R' k'=>by simp only[evalOp,DN,hu,hl,hn,hm,hx,hsz,hnn,hs],BB fun w F m ρc o hop hty hi hr => ?_⟩;obtain⟨a1,a2,a3,rfl⟩:=Hm hs;rw[D_,AY1]at hnn;subst hnn;simp only[AXc]at hsz;obtain⟨i,hi0,hsz'⟩:=Bs hsz;have hrx:=hr x;rw[hx]at hrx;have hrx:Dat w F (.slice t) xs [ρc x]:=hrx;obtain⟨a,cap,e1,e2,e3⟩:=hrx;simp only[AXz,AZv]at e1;obtain⟨k1,hup⟩:=K_ hn (hr (.tmp u));obtain⟨k2,hmx⟩:=K_ hm (hr mx);have hrun:=L0 (P:=P) (w:=w) (kh:=k1) (km:=k2) hu hi0 a (List.length (α:=t.den) xs) cap (Oe hr hl 0) a1 a2 (by omega);refine⟨.slice (if n.toNat=(l.getD 0).toNat then a else a.map (·.add ((l.getD 0).toNat*i.size))) (n.toNat-(l.getD 0).toNat) (n.toNat-(l.getD 0).toNat),by simp[execOp,hop,e1,hup,hmx,hrun],?_⟩
  have hlen:((xs.take n.toNat).drop (l.getD 0).toNat).length=n.toNat-(l.getD 0).toNat:=by grind
  unfold Rep;refine⟨⟨_,_,by rw[hlen],by omega,fun hne => ?_⟩,_,by rw[hlen]⟩;have hpos:(l.getD 0).toNat<n.toNat:=by grind
  have hxne:xs≠[]:=by grind
  obtain⟨ad,row,q1,q2,q3,q4⟩:=e3 hxne;have hk:=fun(x:t.den) cs (h:Dat w F t x cs)=>Dat.length t h;refine⟨ad.add ((l.getD 0).toNat*t.size),_,?_,by rw[H5];exact q2,Hp hk (l.getD 0).toNat (EZ hk n.toNat q3),fun j u hu' => ?_⟩;grind;rw[add_add];grind;grind;grind;grind;grind
  ·rename_i hnt;split at h
   ·rename_i e' t hl hh hm hsl;obtain⟨hu',hty',hpos⟩:=Cg hsl;split at h
    ·rename_i n hx hs;split at h
     ·rename_i hf;refine⟨_,_,h,fun R' k' => ?_,Bm fun w F m ρc o hop hty hi hr => ?_⟩;rcases up with _|q;simp only[evalOp,DN,hu,hl,hh,hm,hsl,hx,hs,hf];cases q with
       |tmp u=>grind
       |_=>simp only[evalOp,DN,hu,hl,hh,hm,hsl,hx,hs,hf]
      obtain⟨i,hi0,_⟩:=Bs hs;have hslice:=kE hx (hr x);obtain⟨a,len,cap,e1⟩:=hslice;have hlo:lo.map ρc=none:=by
       rcases MK hr hl with⟨h1,_⟩|⟨_,_,_,h2⟩
       all_goals grind
      have hup:∃ k,up.map ρc=some (.int k 0):=by
       rcases MK hr hh with⟨_,h2⟩|⟨k,n,h1,h2⟩
       all_goals grind
      obtain⟨k1,hup⟩:=hup;obtain⟨k2,hmx⟩:=K_ hm (hr mx);have hrun:=US (P:=P) (w:=w) hu hi0 a len cap k1 k2;obtain⟨m',hg,hrep⟩:=EJ hi hf e hpos a;exact⟨_,w,F,m',by simp[execOp,hop,e1,hlo,hup,hmx,hrun],hg,hrep⟩
     grind
    grind
   grind
 all_goals grind
theorem Qp{T:TypeId}{f off size:Nat}{ag:Bool}(h:fieldAt P T f=some (off,size,ag)):∃ fs fd i,P.underlying T=some (.struct fs)∧fs[f]? = some fd∧P.info? fd.type=some i∧fd.offset=off∧i.size=size∧Ew P fd.type=some ag:=by unfold fieldAt at h;grind
theorem Jd{w:World}{T:TypeId}{f off size:Nat}{ag:Bool}(h:fieldAt P T f=some (off,size,ag))(hs:size≠0)(a:Addr):(Instr.fieldAt T (.pointer (some a)) f).run P w = .ok (.pointer (some (a.add off))) w:=by obtain⟨fs,fd,i,hu,hf,hi,rfl,rfl,ha⟩:=Qp h;simp[Instr.fieldAt,run_underlying hu,hf,Instr.sureAddr,fieldPlace,run_sizeOf hi,hs]
theorem VT(T:TypeId)(x:Operand)(f:Nat):Claim P E (.fieldAddr T x f):=by
 intro R ty ρ H fz slot k r h;simp only[evalOp,Dk]at h;split at h;cases h;rename_i off size ag hf;split at h;cases h;rename_i hs;simp only[AYM]at hs;split at h;rename_i id o' hx;split at h;rename_i hl;obtain⟨cs,ho⟩:=K4 hl;refine⟨_,_,h,fun R' k'=>by simp only[evalOp,Dk,hf,hs,AXu,hx,hl],BB fun w F m ρc o hop hty hi hr => ?_⟩;obtain⟨b,c,vs,T,e1,e2,_⟩:=Q7 hi ho (hx▸hr x);refine⟨.pointer (some ⟨b,o'+off,none⟩),by simp[execOp,hop,e2,Jd hf hs,Cs],?_⟩;unfold Rep;rw[ho];exact⟨b,c,e1,rfl⟩;grind;rename_i id i s hx;split at h;rename_i hl;obtain⟨T',t,xs,ho⟩:=Ed hl;refine⟨_,_,h,fun R' k'=>by simp only[evalOp,Dk,hf,hs,AXu,hx,hl],BB fun w F m ρc o hop hty hi hr => ?_⟩;obtain⟨b,c,vs,row,e1,e2,e3,_⟩:=LQ hi ho (hx▸hr x);refine⟨.pointer (some ⟨b,i*t.size+s+off,none⟩),by simp[execOp,hop,e2,Jd hf hs,Cs],?_⟩;unfold Rep;rw[ho];exact⟨e3,b,c,e1,by grind⟩;grind;rename_i cs hx;refine⟨_,_,h,fun R' k'=>by simp only[evalOp,Dk,hf,hs,AXu,hx],BB fun w F m ρc o hop hty hi hr => ?_⟩;have hrx:=hr x;rw[hx]at hrx;unfold Rep at hrx;obtain⟨ad,us,e1,e2,e3,e4,e5⟩:=hrx;refine⟨.pointer (some (ad.add off)),by simp[execOp,hop,e1,Jd hf hs],?_⟩;unfold Rep;exact⟨ad.add off,us.drop off,rfl,fun hne=>by rw[H5];grind,FL e3 off,fun u hu=>e4 u (AZD hu),fun j u hu=>by rw[add_add];grind⟩
 grind
theorem XI{w:World}{F:Nat→Prop}{m:Mp}{H:List Ob}{T:TypeId}{i:TypeInfo}{ag:Bool}(hi:P.info? T=some i)(ha:Ew P T=some ag){cs:List AV}{v:AV}{us:Array Value}{off:Nat}
  (hl:loadCells ag i.size (cs.drop off)=some v) (hr:BD w F m H cs us.toList) (h1:∀ u∈us.toList,u.oneCell'=true):∃ u,(part T us off).run P w = .ok u w∧Rep w F m H v u:=by
 unfold loadCells at hl;cases ag with
  |true=>simp only at hl;split at hl;rename_i hle;simp only[AXa]at hl;subst hl;refine⟨.agg (us.extract off (off+i.size)),by simp[part,DE ha,run_sizeOf hi],?_⟩;unfold Rep;refine⟨_,rfl,?_,?_⟩;rw[Array.toList_extract,AZ6,show off+i.size-off=i.size from by omega];exact Ni (FL hr off) _;intro u hu;rw[Array.toList_extract,AZ6]at hu;grind;grind
  |false=>
   simp only at hl;have hg:cs[off]? = some v:=by simp_all
   obtain⟨u,h2,h3⟩:=C' hr hg;refine⟨u,?_,h3⟩;have:us[off]? = some u:=by grind
   simp[part,DE ha,this]
theorem tV(T:TypeId)(x:Operand)(f:Nat):Claim P E (.field T x f):=by intro R ty ρ H fz slot k r h;simp only[evalOp,Qr]at h;split at h;cases h;rename_i off size ag hf;split at h;rename_i cs hc hag;split at h;rename_i v hl;refine⟨_,_,h,fun R' k'=>by simp only[evalOp,Qr,hf,hc,hag,hl],BB fun w F m ρc o hop hty hi hr => ?_⟩;obtain⟨fs,fd,i,hu,hfd,hi0,rfl,rfl,ha⟩:=Qp hf;obtain⟨vs,e1⟩:=KP hag (hr x);have hrc:=cells?_ok hc (hr x);have h1:=cells?_one hc (hr x);rw[e1]at hrc h1;obtain⟨u,q1,q2⟩:=XI (P:=P) hi0 ha hl hrc h1;refine⟨u,?_,q2⟩;simp only[Value.cells]at q1;simp[execOp,hop,e1,Instr.field,run_underlying hu,hfd,Go.asAgg,q1];grind;grind
theorem bQ(x:Operand)(i:Nat):Claim P E (.extract x i):=by
 intro R ty ρ H fz slot k r h;simp only[evalOp,KI]at h;split at h;rename_i vs hx;split at h;rename_i v hv;refine⟨_,_,h,fun R' k'=>by simp only[evalOp,KI,hx,hv],BB fun w F m ρc o hop hty hi hr => ?_⟩;have hrx:=hr x;rw[hx]at hrx;unfold Rep at hrx;obtain⟨us,e1,e2⟩:=hrx;obtain⟨u,h1,h2⟩:=C' e2 hv;exact⟨u,by
  have:us[i]? = some u:=by grind
  simp[execOp,hop,e1,Instr.extract,this],h2⟩
 grind;grind
end
end Go.Pev
end
